/- Strings: one byte looked for, cut and split at it, suffixes; words in a list. Conditions: those of each theorem. -/
import Derived.Test.YtpmlgnbbkpplhaaGreatDoorEChk
import Derived.Test.YtpmlgnbbkpplhaaGreatDoorESame
import Derived.Test.YtpmlgnbbkpplhaaGreatDoorECut
import Derived.Test.YtpmlgnbbkpplhaaGreatDoorByt
import Derived.Test.YtpmlgnbbkpplhaaGreatDoorClr
namespace Go.Proofs.YtpmlgnbbkpplhaaGreatDoor
set_option linter.unusedSimpArgs false
set_option linter.unusedVariables false
set_option maxRecDepth 20000
open Go.RowKit Go.Eng
theorem Contains1_any (s : List UInt8) (c : UInt8) (w : World) : Calls Tryz.prog 79 #[str s, str [c]] w fun e w' => e = .returned (.bool (decide (0 ≤ Lib.indexByte s c))) ∧ Below w.heap.size w w' :=
  (Tryz.strings_Contains_one ⟨s.toArray⟩ c w).mono fun e w' h => ⟨by rw [h.1], h.2 ▸ Below.refl _ _⟩
theorem Index1_any (s : List UInt8) (c : UInt8) (w : World) : Calls Tryz.prog 181 #[str s, str [c]] w fun e w' => e = .returned (.int .i64 (Lib.indexByte s c)) ∧ Below w.heap.size w w' :=
  (Tryz.strings_Index_one ⟨s.toArray⟩ c w).mono fun e w' h => ⟨by rw [h.1], h.2 ▸ Below.refl _ _⟩
theorem LIndex1_any (s : List UInt8) (c : UInt8) (w : World) : Calls Tryz.prog 230 #[str s, str [c]] w fun e w' => e = .returned (.int .i64 (Lib.indexByte s c)) ∧ Below w.heap.size w w' :=
  (Tryz.stringslite_Index_one ⟨s.toArray⟩ c w).mono fun e w' h => ⟨by rw [h.1], h.2 ▸ Below.refl _ _⟩
theorem Count1_any (s : List UInt8) (c : UInt8) (w : World) : Calls Tryz.prog 242 #[str s, str [c]] w fun e w' => e = .returned (.int .i64 ((s.count c : Nat) : Int)) ∧ Below w.heap.size w w' :=
  (Tryz.strings_Count_one ⟨s.toArray⟩ c w).mono fun e w' h => ⟨by rw [h.1]; rfl, h.2 ▸ Below.refl _ _⟩
theorem HasSuffix_any (s p : List UInt8) (hs : s.length ≤ 4611686018427387904) (w : World) : Calls Tryz.prog 132 #[str s, str p] w fun e w' => e = .returned (.bool (Lib.hasSuffix s p)) ∧ Below w.heap.size w w' :=
  (Tryz.strings_HasSuffix ⟨s.toArray⟩ ⟨p.toArray⟩ w (by show s.toArray.size ≤ _; simp; omega)).mono fun e w' h => ⟨by rw [h.1], h.2 ▸ Below.refl _ _⟩
/-! ### Split -/
def splitC (c : UInt8) : List UInt8 → List (List UInt8)
  | [] => [[]]
  | x :: r => if x = c then [] :: splitC c r else match splitC c r with
    | h :: t => (x :: h) :: t
    | [] => [[x]]
theorem splitC_len (c : UInt8) : ∀ s : List UInt8, (splitC c s).length = s.count c + 1
  | [] => rfl
  | x :: r => by
    have ih := splitC_len c r
    rw [splitC]
    by_cases h : x = c
    · subst h; rw [if_pos rfl, List.length_cons, ih, List.count_cons_self]
    · rw [if_neg h, List.count_cons_of_ne h]
      cases hq : splitC c r with
      | nil => rw [hq] at ih; simp at ih
      | cons a t => rw [hq] at ih; simpa using ih
theorem splitC_none (c : UInt8) : ∀ s : List UInt8, (∀ k : Nat, s[k]? ≠ some c) → splitC c s = [s]
  | [], _ => rfl
  | x :: r, h => by
    have hx : ¬ x = c := fun e => h 0 (by simp [e])
    rw [splitC, if_neg hx, splitC_none c r fun k => by have := h (k + 1); simpa using this]
theorem splitC_some (c : UInt8) : ∀ (s : List UInt8) (o : Nat), s[o]? = some c → (∀ k : Nat, k < o → s[k]? ≠ some c) → splitC c s = s.take o :: splitC c (s.drop (o + 1))
  | [], o, h, _ => by simp at h
  | x :: r, 0, h, _ => by
    have hx : x = c := by simpa using h
    rw [splitC, if_pos hx]; rfl
  | x :: r, o + 1, h, hk => by
    have hx : ¬ x = c := fun e => hk 0 (by omega) (by simp [e])
    rw [splitC, if_neg hx, splitC_some c r o (by simpa using h) fun k hko => by have := hk (k + 1) (by omega); simpa using this]
    rfl
theorem strs_flat (l : List (List UInt8)) : l.flatMap strE = l.map str := by
  induction l with
  | nil => rfl
  | cons a r ih => rw [List.flatMap_cons, ih]; rfl
theorem strs_len (l : List (List UInt8)) : (l.flatMap strE).length = l.length := by rw [strs_flat, List.length_map]
theorem strs_set {out : List (List UInt8)} {i m : Nat} {v : List UInt8} (ho : out.length = i) (hm : 0 < m) : ((out ++ List.replicate m []).flatMap strE).set i (str v) = ((out ++ [v]) ++ List.replicate (m - 1) []).flatMap strE := by
  obtain ⟨k, rfl⟩ : ∃ k, m = k + 1 := ⟨m - 1, by omega⟩
  subst ho
  rw [strs_flat, strs_flat, Nat.add_sub_cancel, List.replicate_succ]
  simp
theorem made_str (z : Value) (hz : z = str []) (n : Nat) : (madeCells z.cells (n * 1)).toList = (List.replicate n []).flatMap strE := by
  subst hz
  rw [strs_flat, Nat.mul_one]
  apply List.ext_getElem?
  intro j
  by_cases h : j < n
  · simp [madeCells, h, List.getElem?_replicate, Value.cells, Nat.mod_one]
  · simp [madeCells, h, List.getElem?_replicate]
set_option maxHeartbeats 1000000 in
theorem genSplit1_any (s : List UInt8) (c : UInt8) (hs : s.length ≤ 1000000000) (w : World) :
    Calls Tryz.prog 204 #[str s, str [c], .int .i64 0, .int .i64 (-1)] w fun e w' => ∃ A q, e = .returned (.slice A (splitC c s).length q) ∧ w'.ownsRow w.heap.size 9 1 (.slice A (splitC c s).length q) (splitC c s).length ((splitC c s).flatMap strE) ∧ Below w.heap.size w w' := by
  have hcl : s.count c ≤ s.length := List.count_le_length
  have hsl := splitC_len c s
  refine enter_args (args := [str s, str [c], .int .i64 0, .int .i64 (-1)]) (F := _) Tryz.func204 rfl Tryz.ntmps204 rfl rfl ?_
  intro Rb hRb hRn
  refine T_seq ?_
  refine T_region ?_
  refine S_nilSlice 8 (e := 9) (size := 1) ?_
  refine S_ 8 rfl rfl rfl _ (y_assign rfl rfl) ?_
  refine S_go (fun _ _ h => h) ?_
  refine T_seq ?_
  refine T_seq ?_
  refine T_region ?_
  refine S_ 12 rfl rfl rfl _ (y_move rfl rfl) ?_
  refine S_ 13 rfl rfl rfl _ (y_bin rfl rfl rfl (fun _ => b_eql)) ?_
  refine S_go (fun _ _ h => h) ?_
  refine T_cond rfl (fun h13 => ?_) (fun h13 => ?_)
  · skip
    simp at h13
  · skip
    refine T_skip_go (fun _ _ h => h) ?_
    refine T_seq ?_
    refine T_seq ?_
    refine T_region ?_
    refine S_ 14 rfl rfl rfl _ (y_move rfl rfl) ?_
    refine S_ 15 rfl rfl rfl _ (y_bin rfl rfl rfl (fun _ => b_eqls)) ?_
    refine S_go (fun _ _ h => h) ?_
    refine T_cond rfl (fun h15 => ?_) (fun h15 => ?_)
    · skip
      simp at h15
    · skip
      refine T_skip_go (fun _ _ h => h) ?_
      refine T_seq ?_
      refine T_seq ?_
      refine T_region ?_
      refine S_ 19 rfl rfl rfl _ (y_move rfl rfl) ?_
      refine S_ 20 rfl rfl rfl _ (y_bin rfl rfl rfl (fun _ => b_lss)) ?_
      refine S_go (fun _ _ h => h) ?_
      refine T_cond rfl (fun h20 => ?_) (fun h20 => ?_)
      · skip
        refine T_region ?_
        refine S_ 21 rfl rfl rfl _ (y_move rfl rfl) ?_
        refine S_ 22 rfl rfl rfl _ (y_move rfl rfl) ?_
        refine S_ 23 rfl rfl rfl _ (y_call rfl rfl rfl cf242 (fun _ w _ => Count1_any s c w)) ?_
        refine S_ 24 rfl rfl rfl _ (y_bin rfl rfl rfl (fun hg => b_addv (((s.count c + 1 : Nat) : Int)) (by omega) (by omega))) ?_
        refine S_ 3 rfl rfl rfl _ (y_assign rfl rfl) ?_
        refine S_go (fun _ _ h => h) ?_
        refine T_seq ?_
        refine T_region ?_
        refine S_ 25 rfl rfl rfl _ (y_move rfl rfl) ?_
        refine S_ 26 rfl rfl rfl _ (y_move rfl rfl) ?_
        refine S_ 27 rfl rfl rfl _ (y_len_str rfl rfl Tryz.underlying9) ?_
        refine S_ 28 rfl rfl rfl _ (y_bin rfl rfl rfl (fun hg => b_add (by omega))) ?_
        refine S_ 29 rfl rfl rfl _ (y_as (v' := .int .i64 ((s.count c + 1 : Nat) : Int)) (by congr 1; split <;> omega) (y_min rfl rfl rfl)) ?_
        refine S_ 3 rfl rfl rfl _ (y_assign rfl rfl) ?_
        refine S_go (fun _ _ h => h) ?_
        refine T_seq ?_
        refine T_region ?_
        refine S_ 30 rfl rfl rfl _ (y_move rfl rfl) ?_
        obtain ⟨i31, hi31, hz31, hs31, hy31⟩ := info_parts inf9
        refine S_makeSlice 31 31 rfl rfl rfl rfl rfl rfl Tryz.underlying40 hi31 hz31 hs31 (by rw [hy31]; omega) ((by simp only [maxLen]; omega)) rfl ?_
        intro b31
        refine S_ 9 rfl rfl rfl _ (y_assign rfl rfl) ?_
        refine S_go (fun _ _ h => h) ?_
        refine T_seq ?_
        refine T_region ?_
        refine S_ 32 rfl rfl rfl _ (y_move rfl rfl) ?_
        refine S_ 33 rfl rfl rfl _ (y_bin rfl rfl rfl (fun hg => b_subv (((s.count c : Nat) : Int)) (by omega) (by omega))) ?_
        refine S_ 3 rfl rfl rfl _ (y_assign rfl rfl) ?_
        refine S_go (fun _ _ h => h) ?_
        refine T_seq ?_
        refine T_region ?_
        refine S_ 10 rfl rfl rfl _ (y_assign rfl rfl) ?_
        refine S_go (fun _ _ h => h) ?_
        refine T_seq ?_
        refine T_block ?_
        refine T_loopK3 (kf := [(0, 0), (10, 11), (34, 57)]) (kl := [(0, 0), (10, 11), (31, 31), (34, 57)]) (fun (i : Nat) (out : List (List UInt8)) (rest : List UInt8) => [(10, true, .int .i64 (i : Int)), (0, true, str rest)]) (fun (i : Nat) (out : List (List UInt8)) (rest : List UInt8) => [(31, .own 9 1 (.slice (some ⟨b31, 0, none⟩) (s.count c + 1) (s.count c + 1)) (s.count c + 1) ((out ++ List.replicate (s.count c + 1 - i) []).flatMap strE))]) (fun (i : Nat) (out : List (List UInt8)) (rest : List UInt8) => out.length = i ∧ out ++ splitC c rest = splitC c s ∧ i + (splitC c rest).length = s.count c + 1 ∧ rest.length ≤ s.length) (fun (i : Nat) (out : List (List UInt8)) (rest : List UInt8) => s.count c + 1 - i) 0 [] s (by repeat (first | exact kf_nil | (apply kf_in; focus rfl) | (apply kf_out; focus rfl))) (by repeat (first | exact kl_nil | exact kl_rest (by assumption) rfl | (apply kl_in; focus rfl) | (apply kl_out; focus rfl))) ?_ ?_ ?_ ?_
        · exact ⟨rfl, rfl, by omega, by omega⟩
        · exact ⟨rfl, rfl, trivial⟩
        · exact ⟨by rw [made_str _ rfl]; rfl, trivial⟩
        rintro i out rest ⟨hp1, hp2, hp3, hp4⟩
        refine T_seq ?_
        refine T_seq ?_
        refine T_region ?_
        refine S_ 34 rfl rfl rfl _ (y_move rfl rfl) ?_
        refine S_ 35 rfl rfl rfl _ (y_move rfl rfl) ?_
        refine S_ 36 rfl rfl rfl _ (y_bin rfl rfl rfl (fun _ => b_lss)) ?_
        refine S_go (fun _ _ h => h) ?_
        refine T_cond rfl (fun h36 => ?_) (fun h36 => ?_)
        · try simp only [decide_eq_true_eq, decide_eq_false_iff_not, Bool.or_eq_true, Bool.or_eq_false_iff, Bool.and_eq_true, Bool.and_eq_false_iff, Bool.not_eq_true', Bool.not_eq_false', Bool.not_eq_true, Bool.not_eq_false, Bool.not_true, Bool.not_false, Int.not_lt, Int.not_le, not_or, not_and, Classical.not_not] at h36
          refine T_skip_go (fun _ _ h => h) ?_
          refine T_block ?_
          refine T_seq ?_
          refine T_region ?_
          refine S_ 37 rfl rfl rfl _ (y_move rfl rfl) ?_
          refine S_ 38 rfl rfl rfl _ (y_move rfl rfl) ?_
          refine S_ 39 rfl rfl rfl _ (y_call rfl rfl rfl cf181 (fun _ w _ => Index1_any rest c w)) ?_
          refine S_ 11 rfl rfl rfl _ (y_assign rfl rfl) ?_
          refine S_go (fun _ _ h => h) ?_
          refine T_seq ?_
          refine T_seq ?_
          refine T_region ?_
          refine S_ 40 rfl rfl rfl _ (y_move rfl rfl) ?_
          refine S_ 41 rfl rfl rfl _ (y_bin rfl rfl rfl (fun _ => b_lss)) ?_
          refine S_go (fun _ _ h => h) ?_
          refine T_cond rfl (fun h41 => ?_) (fun h41 => ?_)
          · try simp only [decide_eq_true_eq, decide_eq_false_iff_not, Bool.or_eq_true, Bool.or_eq_false_iff, Bool.and_eq_true, Bool.and_eq_false_iff, Bool.not_eq_true', Bool.not_eq_false', Bool.not_eq_true, Bool.not_eq_false, Bool.not_true, Bool.not_false, Int.not_lt, Int.not_le, not_or, not_and, Classical.not_not] at h41
            have hix : Lib.indexByte rest c = -1 := by have := Lib.indexByte_ge rest c; omega
            have hr0 : splitC c rest = [rest] := splitC_none c rest (Lib.indexByte_none hix)
            have hi1 : i + 1 = s.count c + 1 := by rw [hr0] at hp3; exact hp3
            refine T_exit_go (fun _ _ h => h) ?_
            refine T_seq ?_
            refine T_region ?_
            refine S_ 58 rfl rfl rfl _ (y_move rfl rfl) ?_
            refine S_ 59 rfl rfl rfl _ (y_move rfl rfl) ?_
            refine S_ 60 rfl rfl rfl _ (y_move rfl rfl) ?_
            refine S_ 61 rfl rfl rfl _ (y_indexOwn 31 rfl rfl rfl rfl Tryz.underlying40 sz9 (fun _ => by omega)) ?_
            refine S_storeOwn 31 rfl rfl rfl rfl rfl rfl sz9 rfl rfl ?_ (xs' := ((out ++ [rest]) ++ List.replicate (s.count c + 1 - i - 1) []).flatMap strE) ?_ ?_
            · (rw [strs_len, List.length_append, List.length_replicate]; omega)
            · exact strs_set hp1 (by omega)
            refine S_go (fun _ _ h => h) ?_
            refine T_seq ?_
            refine T_region ?_
            refine S_ 62 rfl rfl rfl _ (y_move rfl rfl) ?_
            refine S_ 63 rfl rfl rfl _ (y_move rfl rfl) ?_
            refine S_ 64 rfl rfl rfl _ (y_bin rfl rfl rfl (fun hg => b_addv (((i + 1 : Nat) : Int)) (by omega) (by omega))) ?_
            refine S_shrink 31 (i + 1) rfl (by omega) ?_
            refine S_ 65 rfl rfl rfl _ (y_as (v' := .slice (some ⟨b31, 0, none⟩) (i + 1) (s.count c + 1)) (by rw [slice0, Nat.sub_zero, Nat.sub_zero]) (y_slice (lo := 0) (hi := i + 1) rfl rfl Tryz.underlying40 sz9 (.inl ⟨rfl, rfl⟩) (.inr ⟨_, _, rfl, rfl⟩) (by omega) (by omega) (Nat.le_refl _))) ?_
            refine S_ 8 rfl rfl rfl _ (y_assign rfl rfl) ?_
            refine S_go (fun _ _ h => h) ?_
            refine T_ret (fun a w hF hM => hRb a w (post1 rfl rfl (fun w hM => ?_) a w hF hM))
            have hfin : splitC c s = out ++ [rest] := by rw [← hp2, hr0]
            have hlen : (splitC c s).length = i + 1 := by rw [hfin, List.length_append, hp1]; rfl
            rw [hlen]
            refine ⟨some ⟨b31, 0, none⟩, s.count c + 1, rfl, ?_, hM.below⟩
            have h := hM.sat 31 _ rfl
            rw [show s.count c + 1 - i - 1 = 0 by omega, List.replicate_zero, List.append_nil, ← hfin, List.take_of_length_le (by rw [strs_len, hlen]; omega)] at h
            exact h
          · try simp only [decide_eq_true_eq, decide_eq_false_iff_not, Bool.or_eq_true, Bool.or_eq_false_iff, Bool.and_eq_true, Bool.and_eq_false_iff, Bool.not_eq_true', Bool.not_eq_false', Bool.not_eq_true, Bool.not_eq_false, Bool.not_true, Bool.not_false, Int.not_lt, Int.not_le, not_or, not_and, Classical.not_not] at h41
            obtain ⟨o, ho⟩ : ∃ o : Nat, Lib.indexByte rest c = o := ⟨(Lib.indexByte rest c).toNat, by omega⟩
            obtain ⟨ho1, ho2⟩ := Lib.indexByte_some ho
            have hol := (List.getElem?_eq_some_iff.1 ho1).1
            have hsp := splitC_some c rest o ho1 ho2
            have hdl : (rest.drop (o + 1)).length = rest.length - (o + 1) := List.length_drop
            refine T_skip_go (fun _ _ h => h) ?_
            refine T_seq ?_
            refine T_region ?_
            refine S_ 42 rfl rfl rfl _ (y_move rfl rfl) ?_
            refine S_ 43 rfl rfl rfl _ (y_move rfl rfl) ?_
            refine S_ 44 rfl rfl rfl _ (y_move rfl rfl) ?_
            refine S_ 45 rfl rfl rfl _ (y_move rfl rfl) ?_
            refine S_ 46 rfl rfl rfl _ (y_move rfl rfl) ?_
            refine S_ 47 rfl rfl rfl _ (y_bin rfl rfl rfl (fun hg => b_addv (((o : Nat) : Int)) (by omega) (by omega))) ?_
            refine S_ 48 rfl rfl rfl _ (y_as (v' := str (rest.take o)) (by rfl) (y_strTo rfl rfl rfl Tryz.underlying9 (fun _ => by omega))) ?_
            refine S_ 49 rfl rfl rfl _ (y_indexOwn 31 rfl rfl rfl rfl Tryz.underlying40 sz9 (fun _ => by omega)) ?_
            refine S_storeOwn 31 rfl rfl rfl rfl rfl rfl sz9 rfl rfl ?_ (xs' := ((out ++ [rest.take o]) ++ List.replicate (s.count c + 1 - i - 1) []).flatMap strE) ?_ ?_
            · (rw [strs_len, List.length_append, List.length_replicate]; omega)
            · exact strs_set hp1 (by omega)
            refine S_go (fun _ _ h => h) ?_
            refine T_seq ?_
            refine T_region ?_
            refine S_ 50 rfl rfl rfl _ (y_move rfl rfl) ?_
            refine S_ 51 rfl rfl rfl _ (y_move rfl rfl) ?_
            refine S_ 52 rfl rfl rfl _ (y_move rfl rfl) ?_
            refine S_ 53 rfl rfl rfl _ (y_as (v' := .int .i64 1) (by exact rfl) (y_len_str rfl rfl Tryz.underlying9)) ?_
            refine S_ 54 rfl rfl rfl _ (y_bin rfl rfl rfl (fun hg => b_addv (((o + 1 : Nat) : Int)) (by omega) (by omega))) ?_
            refine S_ 55 rfl rfl rfl _ (y_as (v' := str (rest.drop (o + 1))) (by rfl) (y_strFrom rfl rfl rfl Tryz.underlying9 (fun _ => by omega))) ?_
            refine S_ 0 rfl rfl rfl _ (y_assign rfl rfl) ?_
            refine S_go (fun _ _ h => h) ?_
            refine T_region ?_
            refine S_ 56 rfl rfl rfl _ (y_move rfl rfl) ?_
            refine S_ 57 rfl rfl rfl _ (y_bin rfl rfl rfl (fun hg => b_addv (((i + 1 : Nat) : Int)) (by omega) (by omega))) ?_
            refine S_ 10 rfl rfl rfl _ (y_assign rfl rfl) ?_
            refine S_nil (nextK3 (kf := [(0, 0), (10, 11), (34, 57)]) (kl := [(0, 0), (10, 11), (31, 31), (34, 57)]) (i + 1) (out ++ [rest.take o]) (rest.drop (o + 1)) (by repeat (first | exact kf_nil | (apply kf_in; focus rfl) | (apply kf_out; focus rfl))) (by repeat (first | exact kl_nil | exact kl_rest (by assumption) rfl | (apply kl_in; focus rfl) | (apply kl_out; focus rfl))) ?_ ?_ ?_ ?_)
            · omega
            · exact ⟨by simp [hp1], by rw [← hp2, hsp, List.append_assoc]; rfl, by rw [hsp, List.length_cons] at hp3; omega, by omega⟩
            · exact ⟨rfl, rfl, trivial⟩
            · exact ⟨rfl, trivial⟩
        · try simp only [decide_eq_true_eq, decide_eq_false_iff_not, Bool.or_eq_true, Bool.or_eq_false_iff, Bool.and_eq_true, Bool.and_eq_false_iff, Bool.not_eq_true', Bool.not_eq_false', Bool.not_eq_true, Bool.not_eq_false, Bool.not_true, Bool.not_false, Int.not_lt, Int.not_le, not_or, not_and, Classical.not_not] at h36
          have hr0 : splitC c rest = [rest] := by
            rcases hq : splitC c rest with _ | ⟨a, _ | ⟨b, t⟩⟩
            · rw [hq] at hp3; have := splitC_len c rest; rw [hq] at this; simp at this
            · have h1 := splitC_len c rest
              rw [hq] at h1
              rw [← hq]
              refine splitC_none c rest fun k hk => ?_
              have := List.count_pos_iff.2 (List.mem_of_getElem? hk)
              simp at h1
              omega
            · rw [hq] at hp3; simp at hp3; omega
          have hi1 : i + 1 = s.count c + 1 := by rw [hr0] at hp3; exact hp3
          refine T_exit_go (fun _ _ h => h) ?_
          refine T_seq ?_
          refine T_region ?_
          refine S_ 58 rfl rfl rfl _ (y_move rfl rfl) ?_
          refine S_ 59 rfl rfl rfl _ (y_move rfl rfl) ?_
          refine S_ 60 rfl rfl rfl _ (y_move rfl rfl) ?_
          refine S_ 61 rfl rfl rfl _ (y_indexOwn 31 rfl rfl rfl rfl Tryz.underlying40 sz9 (fun _ => by omega)) ?_
          refine S_storeOwn 31 rfl rfl rfl rfl rfl rfl sz9 rfl rfl ?_ (xs' := ((out ++ [rest]) ++ List.replicate (s.count c + 1 - i - 1) []).flatMap strE) ?_ ?_
          · (rw [strs_len, List.length_append, List.length_replicate]; omega)
          · exact strs_set hp1 (by omega)
          refine S_go (fun _ _ h => h) ?_
          refine T_seq ?_
          refine T_region ?_
          refine S_ 62 rfl rfl rfl _ (y_move rfl rfl) ?_
          refine S_ 63 rfl rfl rfl _ (y_move rfl rfl) ?_
          refine S_ 64 rfl rfl rfl _ (y_bin rfl rfl rfl (fun hg => b_addv (((i + 1 : Nat) : Int)) (by omega) (by omega))) ?_
          refine S_shrink 31 (i + 1) rfl (by omega) ?_
          refine S_ 65 rfl rfl rfl _ (y_as (v' := .slice (some ⟨b31, 0, none⟩) (i + 1) (s.count c + 1)) (by rw [slice0, Nat.sub_zero, Nat.sub_zero]) (y_slice (lo := 0) (hi := i + 1) rfl rfl Tryz.underlying40 sz9 (.inl ⟨rfl, rfl⟩) (.inr ⟨_, _, rfl, rfl⟩) (by omega) (by omega) (Nat.le_refl _))) ?_
          refine S_ 8 rfl rfl rfl _ (y_assign rfl rfl) ?_
          refine S_go (fun _ _ h => h) ?_
          refine T_ret (fun a w hF hM => hRb a w (post1 rfl rfl (fun w hM => ?_) a w hF hM))
          have hfin : splitC c s = out ++ [rest] := by rw [← hp2, hr0]
          have hlen : (splitC c s).length = i + 1 := by rw [hfin, List.length_append, hp1]; rfl
          rw [hlen]
          refine ⟨some ⟨b31, 0, none⟩, s.count c + 1, rfl, ?_, hM.below⟩
          have h := hM.sat 31 _ rfl
          rw [show s.count c + 1 - i - 1 = 0 by omega, List.replicate_zero, List.append_nil, ← hfin, List.take_of_length_le (by rw [strs_len, hlen]; omega)] at h
          exact h
      · skip
        simp at h20
theorem Split1_any (s : List UInt8) (c : UInt8) (hs : s.length ≤ 1000000000) (w : World) :
    Calls Tryz.prog 105 #[str s, str [c]] w fun e w' => ∃ A q, e = .returned (.slice A (splitC c s).length q) ∧ w'.ownsRow w.heap.size 9 1 (.slice A (splitC c s).length q) (splitC c s).length ((splitC c s).flatMap strE) ∧ Below w.heap.size w w' := by
  refine enter_args (args := [str s, str [c]]) (F := _) Tryz.func105 rfl Tryz.ntmps105 rfl rfl ?_
  intro Rb hRb hRn
  refine T_seq ?_
  refine T_region ?_
  refine S_nilSlice 4 (e := 9) (size := 1) ?_
  refine S_ 4 rfl rfl rfl _ (y_assign rfl rfl) ?_
  refine S_go (fun _ _ h => h) ?_
  refine T_seq ?_
  refine T_region ?_
  refine S_ 5 rfl rfl rfl _ (y_move rfl rfl) ?_
  refine S_ 6 rfl rfl rfl _ (y_move rfl rfl) ?_
  refine S_callOwn 7 7 rfl rfl rfl rfl rfl rfl rfl cf204 (fun A q => .slice A (splitC c s).length q) 9 1 ((splitC c s).length) ((splitC c s).flatMap strE) (fun w hM => genSplit1_any s c hs w) ?_
  intro A7 c7
  refine S_ 4 rfl rfl rfl _ (y_assign rfl rfl) ?_
  refine S_go (fun _ _ h => h) ?_
  refine T_ret (fun a w hF hM => hRb a w (post1 rfl rfl (fun w hM => ?_) a w hF hM))
  exact ⟨A7, c7, rfl, hM.sat 7 _ rfl, hM.below⟩
/-! ### Cut -/
def cutC (c : UInt8) (s : List UInt8) : List UInt8 × List UInt8 × Bool := if Lib.indexByte s c < 0 then (s, [], false) else (s.take (Lib.indexByte s c).toNat, s.drop ((Lib.indexByte s c).toNat + 1), true)
theorem LCut1_any (s : List UInt8) (c : UInt8) (w : World) (hs : s.length ≤ 4611686018427387904) : Calls Tryz.prog 203 #[str s, str [c]] w fun e w' => e = .returned (.tuple #[str (cutC c s).1, str (cutC c s).2.1, .bool (cutC c s).2.2]) ∧ Below w.heap.size w w' := by
  refine enter_args (args := [str s, str [c]]) (F := _) Tryz.func203 rfl Tryz.ntmps203 rfl rfl ?_
  intro Rb hRb hRn
  refine T_seq ?_
  refine T_region ?_
  refine S_ 4 rfl rfl rfl _ (y_assign rfl rfl) ?_
  refine S_ 5 rfl rfl rfl _ (y_assign rfl rfl) ?_
  refine S_ 6 rfl rfl rfl _ (y_assign rfl rfl) ?_
  refine S_go (fun _ _ h => h) ?_
  refine T_seq ?_
  refine T_seq ?_
  refine T_region ?_
  refine S_ 8 rfl rfl rfl _ (y_move rfl rfl) ?_
  refine S_ 9 rfl rfl rfl _ (y_move rfl rfl) ?_
  refine S_ 10 rfl rfl rfl _ (y_call rfl rfl rfl cf230 (fun _ w _ => LIndex1_any s c w)) ?_
  refine S_ 7 rfl rfl rfl _ (y_assign rfl rfl) ?_
  refine S_go (fun _ _ h => h) ?_
  refine T_seq ?_
  refine T_region ?_
  refine S_ 11 rfl rfl rfl _ (y_move rfl rfl) ?_
  refine S_ 12 rfl rfl rfl _ (y_bin rfl rfl rfl (fun _ => b_geq)) ?_
  refine S_go (fun _ _ h => h) ?_
  refine T_cond rfl (fun h12 => ?_) (fun h12 => ?_)
  · try simp only [decide_eq_true_eq, decide_eq_false_iff_not, Bool.or_eq_true, Bool.or_eq_false_iff, Bool.and_eq_true, Bool.and_eq_false_iff, Bool.not_eq_true', Bool.not_eq_false', Bool.not_eq_true, Bool.not_eq_false, Bool.not_true, Bool.not_false, Int.not_lt, Int.not_le, not_or, not_and, Classical.not_not] at h12
    obtain ⟨o, ho⟩ : ∃ o : Nat, Lib.indexByte s c = o := ⟨(Lib.indexByte s c).toNat, by omega⟩
    obtain ⟨ho1, ho2⟩ := Lib.indexByte_some ho
    have hol := (List.getElem?_eq_some_iff.1 ho1).1
    refine T_seq ?_
    refine T_draws (by kernel_rfl) (by kernel_rfl) ?_
    refine D_ 13 rfl rfl rfl _ (y_move rfl rfl) ?_
    refine D_ 14 rfl rfl rfl _ (y_as (v' := .int .i64 ((o : Nat) : Int)) (by rw [ho]) (y_move rfl rfl)) ?_
    refine D_ 15 rfl rfl rfl _ (y_strTo rfl rfl rfl Tryz.underlying9 (fun _ => by omega)) ?_
    refine D_ 16 rfl rfl rfl _ (y_move rfl rfl) ?_
    refine D_ 17 rfl rfl rfl _ (y_as (v' := .int .i64 ((o : Nat) : Int)) (by rw [ho]) (y_move rfl rfl)) ?_
    refine D_ 18 rfl rfl rfl _ (y_move rfl rfl) ?_
    refine D_ 19 rfl rfl rfl _ (y_as (v' := .int .i64 1) (by exact rfl) (y_len_str rfl rfl Tryz.underlying9)) ?_
    refine D_ 20 rfl rfl rfl _ (y_bin rfl rfl rfl (fun hg => b_addv (((o + 1 : Nat) : Int)) (by omega) (by omega))) ?_
    refine D_ 21 rfl rfl rfl _ (y_strFrom rfl rfl rfl Tryz.underlying9 (fun _ => by omega)) ?_
    refine D_ 4 rfl rfl rfl _ (y_assign rfl rfl) ?_
    refine D_ 5 rfl rfl rfl _ (y_assign rfl rfl) ?_
    refine D_ 6 rfl rfl rfl _ (y_assign rfl rfl) ?_
    refine D_go (fun _ _ h => h) ?_
    refine T_ret (fun a w hF hM => hRb a w (post3 rfl rfl rfl rfl (fun w hM => ?_) a w hF hM))
    exact ⟨by rw [cutC, if_neg (by omega), ho]; rfl, hM.below⟩
  · try simp only [decide_eq_true_eq, decide_eq_false_iff_not, Bool.or_eq_true, Bool.or_eq_false_iff, Bool.and_eq_true, Bool.and_eq_false_iff, Bool.not_eq_true', Bool.not_eq_false', Bool.not_eq_true, Bool.not_eq_false, Bool.not_true, Bool.not_false, Int.not_lt, Int.not_le, not_or, not_and, Classical.not_not] at h12
    refine T_skip_go (fun _ _ h => h) ?_
    refine T_seq ?_
    refine T_region ?_
    refine S_ 22 rfl rfl rfl _ (y_move rfl rfl) ?_
    refine S_ 4 rfl rfl rfl _ (y_assign rfl rfl) ?_
    refine S_ 5 rfl rfl rfl _ (y_assign rfl rfl) ?_
    refine S_ 6 rfl rfl rfl _ (y_assign rfl rfl) ?_
    refine S_go (fun _ _ h => h) ?_
    refine T_ret (fun a w hF hM => hRb a w (post3 rfl rfl rfl rfl (fun w hM => ?_) a w hF hM))
    exact ⟨by rw [cutC, if_pos (by omega)], hM.below⟩
theorem Cut1_any (s : List UInt8) (c : UInt8) (w : World) (hs : s.length ≤ 4611686018427387904) : Calls Tryz.prog 104 #[str s, str [c]] w fun e w' => e = .returned (.tuple #[str (cutC c s).1, str (cutC c s).2.1, .bool (cutC c s).2.2]) ∧ Below w.heap.size w w' := by
  refine enter_args (args := [str s, str [c]]) (F := _) Tryz.func104 rfl Tryz.ntmps104 rfl rfl ?_
  intro Rb hRb hRn
  refine T_seq ?_
  refine T_region ?_
  refine S_ 4 rfl rfl rfl _ (y_assign rfl rfl) ?_
  refine S_ 5 rfl rfl rfl _ (y_assign rfl rfl) ?_
  refine S_ 6 rfl rfl rfl _ (y_assign rfl rfl) ?_
  refine S_go (fun _ _ h => h) ?_
  refine T_seq ?_
  refine T_region ?_
  refine S_ 7 rfl rfl rfl _ (y_move rfl rfl) ?_
  refine S_ 8 rfl rfl rfl _ (y_move rfl rfl) ?_
  refine S_ 9 rfl rfl rfl _ (y_call rfl rfl rfl cf203 (fun _ w _ => LCut1_any s c w hs)) ?_
  refine S_ 10 rfl rfl rfl _ (y_extract rfl rfl rfl) ?_
  refine S_ 11 rfl rfl rfl _ (y_extract rfl rfl rfl) ?_
  refine S_ 12 rfl rfl rfl _ (y_extract rfl rfl rfl) ?_
  refine S_ 4 rfl rfl rfl _ (y_assign rfl rfl) ?_
  refine S_ 5 rfl rfl rfl _ (y_assign rfl rfl) ?_
  refine S_ 6 rfl rfl rfl _ (y_assign rfl rfl) ?_
  refine S_go (fun _ _ h => h) ?_
  refine T_ret (fun a w hF hM => hRb a w (post3 rfl rfl rfl rfl (fun w hM => ?_) a w hF hM))
  exact ⟨rfl, hM.below⟩
/-! ### Words in a list -/
theorem CloneStr_any (A : Option Addr) (q c : Nat) (l : List (List UInt8)) (w : World) (hl : SlT strE 1 w A q l) (hq : q ≤ 1000000) :
    Calls Tryz.prog 118 #[.slice A q c] w fun e w' => ∃ A' c', e = .returned (.slice A' q c') ∧ w'.ownsRow w.heap.size 9 1 (.slice A' q c') q (l.flatMap strE) ∧ Below w.heap.size w w' := by
  have hlen := hl.len
  refine enter_args (args := [.slice A q c]) (F := _) Tryz.func118 rfl Tryz.ntmps118 rfl rfl ?_
  intro Rb hRb hRn
  refine T_seq ?_
  refine T_region ?_
  refine S_nilSlice 2 (e := 9) (size := 1) ?_
  refine S_ 2 rfl rfl rfl _ (y_assign rfl rfl) ?_
  refine S_go (fun _ _ h => h) ?_
  refine T_seq ?_
  refine T_seq ?_
  refine T_region ?_
  refine S_ 3 rfl rfl rfl _ (y_move rfl rfl) ?_
  refine S_ 4 rfl rfl rfl _ (y_bin rfl rfl rfl (fun _ => b_eqln Tryz.underlying40)) ?_
  refine S_go (fun _ _ h => h) ?_
  refine T_cond rfl (fun h4 => ?_) (fun h4 => ?_)
  · skip
    refine T_seq ?_
    refine T_region ?_
    refine S_nilSlice 2 (e := 9) (size := 1) ?_
    refine S_ 2 rfl rfl rfl _ (y_assign rfl rfl) ?_
    refine S_go (fun _ _ h => h) ?_
    refine T_ret (fun a w hF hM => hRb a w (post1 rfl rfl (fun w hM => ?_) a w hF hM))
    have hA : A = none := by cases h : A with
      | none => rfl
      | some a => rw [h] at h4; cases h4
    have h0 : q = 0 := by
      rcases Nat.eq_zero_or_pos q with h | h
      · exact h
      · have := hl.isSome h; rw [hA] at this; cases this
    have hn : l = [] := List.eq_nil_of_length_eq_zero (by omega)
    rw [h0, hn]
    exact ⟨none, 0, rfl, World.ownsRow_nil _ _ _ _, hM.below⟩
  · skip
    refine T_skip_go (fun _ _ h => h) ?_
    refine T_seq ?_
    refine T_region ?_
    refine S_buildSlice0 5 5 rfl rfl rfl rfl Tryz.underlying40 sz9 ?_
    intro b5
    refine S_ 6 rfl rfl rfl _ (y_move rfl rfl) ?_
    obtain ⟨i7, hi7, hz7, hs7, hy7⟩ := info_parts inf9
    refine S_appendG 7 5 (news := l.flatMap strE) rfl rfl rfl rfl rfl rfl rfl (fun w hM => hl.rd.below hM.below) Tryz.underlying40 hi7 hz7 hs7 hy7 rfl (by decide) (allOne_of (fun u hu => by obtain ⟨a, _, ha⟩ := List.mem_flatMap.1 hu; simp [strE] at ha; rcases ha with rfl; rfl)) ?_ ?_ (q) (l.flatMap strE) ?_ ?_ ?_
    · (simp only [maxLen]; omega)
    · omega
    · omega
    · rfl
    intro A7 c7
    refine S_ 2 rfl rfl rfl _ (y_assign rfl rfl) ?_
    refine S_go (fun _ _ h => h) ?_
    refine T_ret (fun a w hF hM => hRb a w (post1 rfl rfl (fun w hM => ?_) a w hF hM))
    exact ⟨A7, c7, rfl, hM.sat 5 _ rfl, hM.below⟩
end Go.Proofs.YtpmlgnbbkpplhaaGreatDoor
