/- The reference's number, and the two readers of numbers. Conditions: those of each theorem. -/
import Derived.Test.YtofolhnecfkjkaaDoorDig
import Derived.Test.YtofolhnecfkjkaaDoorRng
namespace Go.Proofs.YtofolhnecfkjkaaDoor
set_option linter.unusedSimpArgs false
set_option linter.unusedVariables false
set_option maxRecDepth 20000
open Go.RowKit Go.Eng

theorem u8_add (q : Nat) : Value.int .u8 (IntKind.u8.wrap (((UInt8.ofNat (q % 128)).toNat : Int) + 128)) = .int .u8 ((UInt8.ofNat (q % 128 + 128)).toNat : Int) := by
  have e : ((UInt8.ofNat (q % 128)).toNat : Int) = ((q % 128 : Nat) : Int) := by simp [Nat.mod_eq_of_lt (show q % 128 < 256 by omega)]
  rw [e]; exact u8_wrap (q % 128 + 128) (by omega)
theorem number_any (n : Int) (h0 : 0 ≤ n) (h1 : n ≤ 4611686018427387904) (w : World) :
    Calls Tryd.prog 62 #[.int .i64 n] w fun e w' => e = .returned (str (dig128 n.toNat)) ∧ Below w.heap.size w w' := by
  obtain ⟨N, rfl⟩ := Int.eq_ofNat_of_zero_le h0
  have hlen : (dig128 N).length ≤ 9 := dig_len 8 N (by omega)
  rw [Int.toNat_natCast]
  refine enter_args (args := [.int .i64 N]) (F := _) Tryd.func62 rfl Tryd.ntmps62 rfl rfl ?_
  intro Rb hRb hRn
  refine T_seq ?_
  refine T_region ?_
  refine S_ 2 rfl rfl rfl _ (y_assign rfl rfl) ?_
  refine S_go (fun _ _ h => h) ?_
  refine T_seq ?_
  refine T_region ?_
  refine S_ 4 rfl rfl rfl _ (y_move rfl rfl) ?_
  refine S_ 5 rfl rfl rfl _ (y_bin rfl rfl rfl (fun hg => b_rem (by omega) (by omega) (by omega))) ?_
  refine S_ 6 rfl rfl rfl _ (y_conv rfl rfl Tryd.underlying3 Tryd.underlying5) ?_
  refine S_buildSlice 7 7 rfl rfl rfl rfl rfl Tryd.underlying100 inf5 rfl (by decide) (by decide) rfl rfl (by decide) rfl (bytesV ([] ++ [UInt8.ofNat (N % 128)])) ?_ ?_
  · rw [bytesV_snoc, ← u8_wrap (N % 128) (by omega)]; rfl
  intro b7
  refine S_ 3 rfl rfl rfl _ (y_assign rfl rfl) ?_
  refine S_go (fun _ _ h => h) ?_
  refine T_seq ?_
  refine T_seq ?_
  refine T_region ?_
  refine S_ 8 rfl rfl rfl _ (y_move rfl rfl) ?_
  refine S_ 9 rfl rfl rfl _ (y_bin rfl rfl rfl (fun hg => b_quo (by omega) (by omega) (by omega))) ?_
  refine S_ 0 rfl rfl rfl _ (y_assign rfl rfl) ?_
  refine S_go (fun _ _ h => h) ?_
  refine T_block ?_
  refine T_loopK5 (kf := [(0, 0), (3, 3), (10, 27)]) (kl := [(0, 0), (3, 3), (7, 7), (10, 27)]) (fun (m q : Nat) (l : List UInt8) A c => [(0, true, .int .i64 (m : Int)), (3, true, .slice A (l.length + 1) c)]) (fun (m q : Nat) (l : List UInt8) A c => [(7, .own 5 1 (.slice A (l.length + 1) c) (l.length + 1) (bytesV (l ++ [UInt8.ofNat (q % 128)])))]) (fun (m q : Nat) (l : List UInt8) A c => q ≤ 4611686018427387904 ∧ m = q / 128 ∧ l ++ dig128 q = dig128 N) (fun (m q : Nat) (l : List UInt8) A c => m) (N / 128) N [] (some ⟨b7, 0, none⟩) 1 (by repeat (first | exact kf_nil | (apply kf_in; focus rfl) | (apply kf_out; focus rfl))) (by repeat (first | exact kl_nil | exact kl_rest (by assumption) rfl | (apply kl_in; focus rfl) | (apply kl_out; focus rfl))) ?_ ?_ ?_ ?_
  · exact ⟨by omega, rfl, rfl⟩
  · exact ⟨rfl, rfl, trivial⟩
  · exact ⟨rfl, trivial⟩
  rintro m q l A c ⟨hp1, hp2, hp3⟩
  have hl := congrArg List.length hp3
  rw [List.length_append] at hl
  refine T_seq ?_
  refine T_seq ?_
  refine T_region ?_
  refine S_ 10 rfl rfl rfl _ (y_move rfl rfl) ?_
  refine S_ 11 rfl rfl rfl _ (y_bin rfl rfl rfl (fun _ => b_gtr)) ?_
  refine S_go (fun _ _ h => h) ?_
  refine T_cond rfl (fun h11 => ?_) (fun h11 => ?_)
  · try simp only [decide_eq_true_eq, decide_eq_false_iff_not, Bool.or_eq_true, Bool.or_eq_false_iff, Bool.and_eq_true, Bool.and_eq_false_iff, Bool.not_eq_true', Bool.not_eq_false', Bool.not_eq_true, Bool.not_eq_false, Bool.not_true, Bool.not_false, Int.not_lt, Int.not_le, not_or, not_and, Classical.not_not] at h11
    refine T_skip_go (fun _ _ h => h) ?_
    refine T_seq ?_
    refine T_block ?_
    refine T_seq ?_
    refine T_region ?_
    refine S_ 14 rfl rfl rfl _ (y_move rfl rfl) ?_
    refine S_ 15 rfl rfl rfl _ (y_move rfl rfl) ?_
    refine S_ 16 rfl rfl rfl _ (y_len_slice rfl rfl Tryd.underlying100) ?_
    refine S_ 17 rfl rfl rfl _ (y_bin rfl rfl rfl (fun hg => b_subv ((l.length : Int)) (by omega) (by omega))) ?_
    refine S_ 18 rfl rfl rfl _ (y_indexOwn 7 rfl rfl rfl rfl Tryd.underlying100 sz5 (fun _ => by omega)) ?_
    refine S_ 19 rfl rfl rfl _ (y_load_own 7 rfl rfl rfl (fun _ => by omega) (v := .int .u8 ((UInt8.ofNat (q % 128)).toNat : Int)) (fun _ => by rw [bytesV_snoc]; simp [bytesV]) Tryd.underlying5 rfl) ?_
    refine S_ 20 rfl rfl rfl _ (y_bin rfl rfl rfl (fun hg => b_addw)) ?_
    refine S_ 21 rfl rfl rfl _ (y_indexOwn 7 rfl rfl rfl rfl Tryd.underlying100 sz5 (fun _ => by omega)) ?_
    refine S_storeOwn 7 rfl rfl rfl rfl rfl rfl sz5 rfl rfl ?_ (xs' := bytesV (l ++ [UInt8.ofNat (q % 128 + 128)])) ?_ ?_
    · simp [bytesV]
    · rw [u8_add, bytesV_snoc, bytesV_snoc]; simp [bytesV]
    refine S_go (fun _ _ h => h) ?_
    refine T_region ?_
    refine S_ 22 rfl rfl rfl _ (y_move rfl rfl) ?_
    refine S_ 23 rfl rfl rfl _ (y_move rfl rfl) ?_
    refine S_ 24 rfl rfl rfl _ (y_bin rfl rfl rfl (fun hg => b_rem (by omega) (by omega) (by omega))) ?_
    refine S_ 25 rfl rfl rfl _ (y_conv rfl rfl Tryd.underlying3 Tryd.underlying5) ?_
    refine S_buildSlice 26 26 rfl rfl rfl rfl rfl Tryd.underlying100 inf5 rfl (by decide) (by decide) rfl rfl (by decide) rfl (_) rfl ?_
    intro b26
    obtain ⟨i27, hi27, hz27, hs27, hy27⟩ := info_parts inf5
    refine S_append 27 7 26 rfl rfl rfl rfl rfl rfl rfl rfl Tryd.underlying100 hi27 hz27 hs27 hy27 rfl (by decide) (by decide) rfl ?_ ?_ ((l ++ [UInt8.ofNat (q % 128 + 128)]).length + 1) (bytesV (l ++ [UInt8.ofNat (q % 128 + 128)] ++ [UInt8.ofNat (m % 128)])) ?_ ?_ ?_
    · (simp only [maxLen]; omega)
    · omega
    · simp
    · rw [bytesV_snoc (l ++ [UInt8.ofNat (q % 128 + 128)]), ← u8_wrap (m % 128) (by omega)]; rfl
    intro A27 c27
    refine S_ 3 rfl rfl rfl _ (y_assign rfl rfl) ?_
    refine S_go (fun _ _ h => h) ?_
    refine T_region ?_
    refine S_ 12 rfl rfl rfl _ (y_move rfl rfl) ?_
    refine S_ 13 rfl rfl rfl _ (y_bin rfl rfl rfl (fun hg => b_quo (by omega) (by omega) (by omega))) ?_
    refine S_ 0 rfl rfl rfl _ (y_assign rfl rfl) ?_
    refine S_nil (nextK5 (kf := [(0, 0), (3, 3), (10, 27)]) (kl := [(0, 0), (3, 3), (7, 7), (10, 27)]) (m / 128) m (l ++ [UInt8.ofNat (q % 128 + 128)]) A27 c27 (by repeat (first | exact kf_nil | (apply kf_in; focus rfl) | (apply kf_out; focus rfl))) (by repeat (first | exact kl_nil | exact kl_rest (by assumption) rfl | (apply kl_in; focus rfl) | (apply kl_out; focus rfl))) ?_ ?_ ?_ ?_)
    · omega
    · exact ⟨by omega, rfl, by rw [hp2]; exact digits_step hp3 (by omega)⟩
    · exact ⟨rfl, rfl, trivial⟩
    · exact ⟨rfl, trivial⟩
  · try simp only [decide_eq_true_eq, decide_eq_false_iff_not, Bool.or_eq_true, Bool.or_eq_false_iff, Bool.and_eq_true, Bool.and_eq_false_iff, Bool.not_eq_true', Bool.not_eq_false', Bool.not_eq_true, Bool.not_eq_false, Bool.not_true, Bool.not_false, Int.not_lt, Int.not_le, not_or, not_and, Classical.not_not] at h11
    refine T_exit_go (fun _ _ h => h) ?_
    refine T_seq ?_
    refine T_region ?_
    refine S_ 28 rfl rfl rfl _ (y_move rfl rfl) ?_
    refine S_ 29 rfl rfl rfl _ (y_str_own 7 rfl rfl rfl Tryd.underlying100 Tryd.underlying5 Tryd.underlying9) ?_
    refine S_ 2 rfl rfl rfl _ (y_assign rfl rfl) ?_
    refine S_go (fun _ _ h => h) ?_
    refine T_ret (fun a w hF hM => hRb a w (post1 rfl rfl (fun w hM => ?_) a w hF hM))
    exact ⟨by rw [← hp3, dig_last (n := q) (by omega), Nat.mod_eq_of_lt (by omega)], hM.below⟩
def rd (most : Nat) : List UInt8 → Nat → Nat → Option (Nat × Nat)
  | [], _, _ => none
  | d :: r, i, n =>
    if most ≤ i then none
    else if 128 ≤ d.toNat then rd most r (i + 1) (n + d.toNat % 128 * 2 ^ (7 * i))
    else if 281474976710656 < n + d.toNat % 128 * 2 ^ (7 * i) ∨ (d.toNat = 0 ∧ 0 < i) then none
    else some (n + d.toNat % 128 * 2 ^ (7 * i), i + 1)
def rdV (most : Nat) (s : List UInt8) : Value := match rd most s 0 0 with
  | some (n, k) => .tuple #[.int .i64 n, .int .i64 k, .int .i64 0]
  | none => .tuple #[.int .i64 0, .int .i64 0, .int .i64 8]
theorem rdV_some {most : Nat} {s : List UInt8} {n k : Nat} (h : rd most s 0 0 = some (n, k)) : rdV most s = .tuple #[.int .i64 n, .int .i64 k, .int .i64 0] := by unfold rdV; rw [h]
theorem rdV_none {most : Nat} {s : List UInt8} (h : rd most s 0 0 = none) : rdV most s = .tuple #[.int .i64 0, .int .i64 0, .int .i64 8] := by unfold rdV; rw [h]
theorem drop_at {s : List UInt8} {i : Nat} (h : i < s.length) : s.drop i = s.getD i 0 :: s.drop (i + 1) := by
  rw [List.drop_eq_getElem_cons h]; congr 1; simp [List.getD, h]
theorem rd_end {most : Nat} {s : List UInt8} {i n : Nat} (h : s.length ≤ i ∨ most ≤ i) : rd most (s.drop i) i n = none := by
  by_cases hl : s.length ≤ i
  · rw [List.drop_eq_nil_of_le hl]; rfl
  · rw [drop_at (by omega)]; simp only [rd]; rw [if_pos (by omega)]
theorem rd_more {most : Nat} {s : List UInt8} {i n : Nat} (h : i < s.length) (hm : i < most) (hd : 128 ≤ (s.getD i 0).toNat) :
    rd most (s.drop i) i n = rd most (s.drop (i + 1)) (i + 1) (n + (s.getD i 0).toNat % 128 * 2 ^ (7 * i)) := by
  rw [drop_at h]; simp only [rd]; rw [if_neg (by omega), if_pos hd]
theorem rd_bad {most : Nat} {s : List UInt8} {i n : Nat} (h : i < s.length) (hm : i < most) (hd : (s.getD i 0).toNat < 128) (hb : 281474976710656 < n + (s.getD i 0).toNat % 128 * 2 ^ (7 * i) ∨ ((s.getD i 0).toNat = 0 ∧ 0 < i)) :
    rd most (s.drop i) i n = none := by
  rw [drop_at h]; simp only [rd]; rw [if_neg (by omega), if_neg (by omega), if_pos hb]
theorem rd_good {most : Nat} {s : List UInt8} {i n : Nat} (h : i < s.length) (hm : i < most) (hd : (s.getD i 0).toNat < 128) (hb : ¬ (281474976710656 < n + (s.getD i 0).toNat % 128 * 2 ^ (7 * i) ∨ ((s.getD i 0).toNat = 0 ∧ 0 < i))) :
    rd most (s.drop i) i n = some (n + (s.getD i 0).toNat % 128 * 2 ^ (7 * i), i + 1) := by
  rw [drop_at h]; simp only [rd]; rw [if_neg (by omega), if_neg (by omega), if_neg hb]
theorem pow7 {i : Nat} (h : i ≤ 7) : 2 ^ (7 * i) ≤ 562949953421312 := by
  have : (2 : Nat) ^ (7 * i) ≤ 2 ^ 49 := Nat.pow_le_pow_right (by decide) (by omega)
  omega
theorem pow7s (i : Nat) : 2 ^ (7 * (i + 1)) = 128 * 2 ^ (7 * i) := by
  rw [Nat.mul_add, Nat.pow_add]; omega
theorem term_le {i d : Nat} (h : i ≤ 7) : d % 128 * 2 ^ (7 * i) ≤ 71494644084506624 := by
  have h1 : d % 128 * 2 ^ (7 * i) ≤ 127 * 2 ^ (7 * i) := Nat.mul_le_mul_right _ (by omega)
  have := pow7 h; omega
theorem term_lt {i d n : Nat} (h : n < 2 ^ (7 * i)) : n + d % 128 * 2 ^ (7 * i) < 2 ^ (7 * (i + 1)) := by
  have h1 : d % 128 * 2 ^ (7 * i) ≤ 127 * 2 ^ (7 * i) := Nat.mul_le_mul_right _ (by omega)
  rw [pow7s]; omega
theorem shl_val {d i : Nat} : (((d % 128 : Nat) : Int)) * 2 ^ (7 * (i : Int)).toNat = ((d % 128 * 2 ^ (7 * i) : Nat) : Int) := by
  have e : (7 * (i : Int)).toNat = 7 * i := by omega
  rw [e, Int.natCast_mul, Int.natCast_pow]; rfl

theorem ReadNumber_any (s : List UInt8) (w : World) :
    Calls Tryd.prog 103 #[str s] w fun e w' => e = .returned (rdV 8 s) ∧ Below w.heap.size w w' := by
  refine enter_args (args := [str s]) (F := _) Tryd.func103 rfl Tryd.ntmps103 rfl rfl ?_
  intro Rb hRb hRn
  refine T_seq ?_
  refine T_region ?_
  refine S_ 2 rfl rfl rfl _ (y_assign rfl rfl) ?_
  refine S_ 3 rfl rfl rfl _ (y_assign rfl rfl) ?_
  refine S_ 4 rfl rfl rfl _ (y_assign rfl rfl) ?_
  refine S_go (fun _ _ h => h) ?_
  refine T_seq ?_
  refine T_seq ?_
  refine T_region ?_
  refine S_ 5 rfl rfl rfl _ (y_assign rfl rfl) ?_
  refine S_go (fun _ _ h => h) ?_
  refine T_block ?_
  refine T_loopK2 (kf := [(0, 0), (2, 44)]) (kl := [(2, 44)]) (fun (i n : Nat) => [(0, true, str s), (2, true, .int .i64 (n : Int)), (5, true, .int .i64 (i : Int))]) (fun (i n : Nat) => []) (fun (i n : Nat) => i ≤ 8 ∧ n < 2 ^ (7 * i) ∧ rd 8 s 0 0 = rd 8 (s.drop i) i n) (fun (i n : Nat) => 9 - i) 0 0 (by repeat (first | exact kf_nil | (apply kf_in; focus rfl) | (apply kf_out; focus rfl))) (by repeat (first | exact kl_nil | exact kl_rest (by assumption) rfl | (apply kl_in; focus rfl) | (apply kl_out; focus rfl))) ?_ ?_ ?_ ?_
  · exact ⟨by omega, by decide, rfl⟩
  · exact ⟨rfl, rfl, rfl, trivial⟩
  · exact trivial
  rintro i n ⟨hp1, hp2, hp3⟩
  refine T_seq ?_
  refine T_seq ?_
  refine T_region ?_
  refine S_ 6 rfl rfl rfl _ (y_move rfl rfl) ?_
  refine S_ 7 rfl rfl rfl _ (y_move rfl rfl) ?_
  refine S_ 8 rfl rfl rfl _ (y_len_str rfl rfl Tryd.underlying9) ?_
  refine S_ 9 rfl rfl rfl _ (y_bin rfl rfl rfl (fun _ => b_lss)) ?_
  refine S_ 10 rfl rfl rfl _ (y_move rfl rfl) ?_
  refine Sg_ 11 rfl rfl rfl rfl rfl rfl _ (y_move rfl rfl) ?_
  refine Sg_ 12 rfl rfl rfl rfl rfl rfl _ (y_bin rfl rfl rfl (fun _ => b_lss)) ?_
  refine S_ 13 rfl rfl rfl _ (y_and rfl rfl rfl) ?_
  refine S_go (fun _ _ h => h) ?_
  refine T_cond rfl (fun h13 => ?_) (fun h13 => ?_)
  · try simp only [decide_eq_true_eq, decide_eq_false_iff_not, Bool.or_eq_true, Bool.or_eq_false_iff, Bool.and_eq_true, Bool.and_eq_false_iff, Bool.not_eq_true', Bool.not_eq_false', Bool.not_eq_true, Bool.not_eq_false, Bool.not_true, Bool.not_false, Int.not_lt, Int.not_le, not_or, not_and, Classical.not_not] at h13
    have hq := term_le (d := (s.getD i 0).toNat) (show i ≤ 7 by omega)
    have hn := pow7 (show i ≤ 7 by omega)
    have hu := (s.getD i 0).toNat_lt
    refine T_skip_go (fun _ _ h => h) ?_
    refine T_seq ?_
    refine T_block ?_
    refine T_seq ?_
    refine T_region ?_
    refine S_ 16 rfl rfl rfl _ (y_move rfl rfl) ?_
    refine S_ 17 rfl rfl rfl _ (y_move rfl rfl) ?_
    refine S_ 18 rfl rfl rfl _ (y_move rfl rfl) ?_
    refine S_ 19 rfl rfl rfl _ (y_index_str rfl rfl rfl Tryd.underlying9 (fun _ => by omega)) ?_
    refine S_ 20 rfl rfl rfl _ (y_bin rfl rfl rfl (fun hg => b_remu (by omega) (by omega) (by omega))) ?_
    refine S_ 21 rfl rfl rfl _ (y_conv64 rfl rfl Tryd.underlying5 Tryd.underlying3 (fun _ => by omega)) ?_
    refine S_ 22 rfl rfl rfl _ (y_move rfl rfl) ?_
    refine S_ 23 rfl rfl rfl _ (y_bin rfl rfl rfl (fun hg => b_mul (by omega))) ?_
    refine S_ 24 rfl rfl rfl _ (y_bin rfl rfl rfl (fun _ => b_shlv (((s.getD i 0).toNat % 128 * 2 ^ (7 * i) : Nat) : Int) (by omega) (by omega) shl_val (by omega))) ?_
    refine S_ 25 rfl rfl rfl _ (y_bin rfl rfl rfl (fun hg => b_addv (((n + (s.getD i 0).toNat % 128 * 2 ^ (7 * i) : Nat) : Int)) (by omega) (by omega))) ?_
    refine S_ 2 rfl rfl rfl _ (y_assign rfl rfl) ?_
    refine S_go (fun _ _ h => h) ?_
    refine T_seq ?_
    refine T_seq ?_
    refine T_region ?_
    refine S_ 26 rfl rfl rfl _ (y_move rfl rfl) ?_
    refine S_ 27 rfl rfl rfl _ (y_move rfl rfl) ?_
    refine S_ 28 rfl rfl rfl _ (y_index_str rfl rfl rfl Tryd.underlying9 (fun _ => by omega)) ?_
    refine S_ 29 rfl rfl rfl _ (y_bin rfl rfl rfl (fun _ => b_geq)) ?_
    refine S_go (fun _ _ h => h) ?_
    refine T_cond rfl (fun h29 => ?_) (fun h29 => ?_)
    · try simp only [decide_eq_true_eq, decide_eq_false_iff_not, Bool.or_eq_true, Bool.or_eq_false_iff, Bool.and_eq_true, Bool.and_eq_false_iff, Bool.not_eq_true', Bool.not_eq_false', Bool.not_eq_true, Bool.not_eq_false, Bool.not_true, Bool.not_false, Int.not_lt, Int.not_le, not_or, not_and, Classical.not_not] at h29
      refine T_exit_go (fun _ _ h => h) ?_
      refine T_region ?_
      refine S_ 14 rfl rfl rfl _ (y_move rfl rfl) ?_
      refine S_ 15 rfl rfl rfl _ (y_bin rfl rfl rfl (fun hg => b_addv (((i + 1 : Nat) : Int)) (by omega) (by omega))) ?_
      refine S_ 5 rfl rfl rfl _ (y_assign rfl rfl) ?_
      refine S_nil (nextK2 (kf := [(0, 0), (2, 44)]) (kl := [(2, 44)]) (i + 1) (n + (s.getD i 0).toNat % 128 * 2 ^ (7 * i)) (by repeat (first | exact kf_nil | (apply kf_in; focus rfl) | (apply kf_out; focus rfl))) (by repeat (first | exact kl_nil | exact kl_rest (by assumption) rfl | (apply kl_in; focus rfl) | (apply kl_out; focus rfl))) ?_ ?_ ?_ ?_)
      · omega
      · exact ⟨by omega, term_lt hp2, by rw [hp3]; exact rd_more (by omega) (by omega) (by omega)⟩
      · exact ⟨rfl, rfl, rfl, trivial⟩
      · exact trivial
    · try simp only [decide_eq_true_eq, decide_eq_false_iff_not, Bool.or_eq_true, Bool.or_eq_false_iff, Bool.and_eq_true, Bool.and_eq_false_iff, Bool.not_eq_true', Bool.not_eq_false', Bool.not_eq_true, Bool.not_eq_false, Bool.not_true, Bool.not_false, Int.not_lt, Int.not_le, not_or, not_and, Classical.not_not] at h29
      refine T_skip_go (fun _ _ h => h) ?_
      refine T_seq ?_
      refine T_seq ?_
      refine T_region ?_
      refine S_ 30 rfl rfl rfl _ (y_move rfl rfl) ?_
      refine S_ 31 rfl rfl rfl _ (y_bin rfl rfl rfl (fun _ => b_gtr)) ?_
      refine S_ 32 rfl rfl rfl _ (y_move rfl rfl) ?_
      refine Sg_ 33 rfl rfl rfl rfl rfl rfl _ (y_move rfl rfl) ?_
      refine Sg_ 34 rfl rfl rfl rfl rfl rfl _ (y_move rfl rfl) ?_
      refine Sg_ 35 rfl rfl rfl rfl rfl rfl _ (y_index_str rfl rfl rfl Tryd.underlying9 (fun hg => by simp only [Bool.true_and, Bool.and_eq_true, beq_iff_eq, decide_eq_true_eq, decide_eq_false_iff_not, Int.not_lt, Int.not_le] at hg; omega)) ?_
      refine Sg_ 36 rfl rfl rfl rfl rfl rfl _ (y_bin rfl rfl rfl (fun _ => b_eql)) ?_
      refine Sg_ 37 rfl rfl rfl rfl rfl rfl _ (y_move rfl rfl) ?_
      refine Sg_ 38 rfl rfl rfl rfl rfl rfl _ (y_move rfl rfl) ?_
      refine Sg_ 39 rfl rfl rfl rfl rfl rfl _ (y_bin rfl rfl rfl (fun _ => b_gtr)) ?_
      refine Sg_ 40 rfl rfl rfl rfl rfl rfl _ (y_and rfl rfl rfl) ?_
      refine S_ 41 rfl rfl rfl _ (y_or rfl rfl rfl) ?_
      refine S_go (fun _ _ h => h) ?_
      refine T_cond rfl (fun h41 => ?_) (fun h41 => ?_)
      · try simp only [decide_eq_true_eq, decide_eq_false_iff_not, Bool.or_eq_true, Bool.or_eq_false_iff, Bool.and_eq_true, Bool.and_eq_false_iff, Bool.not_eq_true', Bool.not_eq_false', Bool.not_eq_true, Bool.not_eq_false, Bool.not_true, Bool.not_false, Int.not_lt, Int.not_le, not_or, not_and, Classical.not_not] at h41
        refine T_exit_go (fun _ _ h => h) ?_
        refine T_seq ?_
        refine T_region ?_
        refine S_ 2 rfl rfl rfl _ (y_assign rfl rfl) ?_
        refine S_ 3 rfl rfl rfl _ (y_assign rfl rfl) ?_
        refine S_ 4 rfl rfl rfl _ (y_assign rfl rfl) ?_
        refine S_go (fun _ _ h => h) ?_
        refine T_ret (fun a w hF hM => hRb a w (post3 rfl rfl rfl rfl (fun w hM => ?_) a w hF hM))
        exact ⟨by rw [rdV_none (by rw [hp3]; exact rd_bad (by omega) (by omega) (by omega) (by omega))], hM.below⟩
      · try simp only [decide_eq_true_eq, decide_eq_false_iff_not, Bool.or_eq_true, Bool.or_eq_false_iff, Bool.and_eq_true, Bool.and_eq_false_iff, Bool.not_eq_true', Bool.not_eq_false', Bool.not_eq_true, Bool.not_eq_false, Bool.not_true, Bool.not_false, Int.not_lt, Int.not_le, not_or, not_and, Classical.not_not] at h41
        refine T_skip_go (fun _ _ h => h) ?_
        refine T_seq ?_
        refine T_region ?_
        refine S_ 42 rfl rfl rfl _ (y_move rfl rfl) ?_
        refine S_ 43 rfl rfl rfl _ (y_move rfl rfl) ?_
        refine S_ 44 rfl rfl rfl _ (y_bin rfl rfl rfl (fun hg => b_addv (((i + 1 : Nat) : Int)) (by omega) (by omega))) ?_
        refine S_ 2 rfl rfl rfl _ (y_assign rfl rfl) ?_
        refine S_ 3 rfl rfl rfl _ (y_assign rfl rfl) ?_
        refine S_ 4 rfl rfl rfl _ (y_assign rfl rfl) ?_
        refine S_go (fun _ _ h => h) ?_
        refine T_ret (fun a w hF hM => hRb a w (post3 rfl rfl rfl rfl (fun w hM => ?_) a w hF hM))
        exact ⟨by rw [rdV_some (by rw [hp3]; exact rd_good (by omega) (by omega) (by omega) (by omega))], hM.below⟩
  · try simp only [decide_eq_true_eq, decide_eq_false_iff_not, Bool.or_eq_true, Bool.or_eq_false_iff, Bool.and_eq_true, Bool.and_eq_false_iff, Bool.not_eq_true', Bool.not_eq_false', Bool.not_eq_true, Bool.not_eq_false, Bool.not_true, Bool.not_false, Int.not_lt, Int.not_le, not_or, not_and, Classical.not_not] at h13
    refine T_exit_go (fun _ _ h => h) ?_
    refine T_seq ?_
    refine T_region ?_
    refine S_ 2 rfl rfl rfl _ (y_assign rfl rfl) ?_
    refine S_ 3 rfl rfl rfl _ (y_assign rfl rfl) ?_
    refine S_ 4 rfl rfl rfl _ (y_assign rfl rfl) ?_
    refine S_go (fun _ _ h => h) ?_
    refine T_ret (fun a w hF hM => hRb a w (post3 rfl rfl rfl rfl (fun w hM => ?_) a w hF hM))
    exact ⟨by rw [rdV_none (by rw [hp3]; exact rd_end (by omega))], hM.below⟩
theorem NumberRead_any (s : List UInt8) (w : World) :
    Calls Tryd.prog 111 #[str s] w fun e w' => e = .returned (rdV 7 s) ∧ Below w.heap.size w w' := by
  refine enter_args (args := [str s]) (F := _) Tryd.func111 rfl Tryd.ntmps111 rfl rfl ?_
  intro Rb hRb hRn
  refine T_seq ?_
  refine T_region ?_
  refine S_ 2 rfl rfl rfl _ (y_assign rfl rfl) ?_
  refine S_ 3 rfl rfl rfl _ (y_assign rfl rfl) ?_
  refine S_ 4 rfl rfl rfl _ (y_assign rfl rfl) ?_
  refine S_go (fun _ _ h => h) ?_
  refine T_seq ?_
  refine T_block ?_
  refine T_loopK2 (kf := [(0, 0), (2, 40)]) (kl := [(2, 40)]) (fun (i n : Nat) => [(0, true, str s), (2, true, .int .i64 (n : Int)), (3, true, .int .i64 (i : Int))]) (fun (i n : Nat) => []) (fun (i n : Nat) => i ≤ 7 ∧ n < 2 ^ (7 * i) ∧ rd 7 s 0 0 = rd 7 (s.drop i) i n) (fun (i n : Nat) => 9 - i) 0 0 (by repeat (first | exact kf_nil | (apply kf_in; focus rfl) | (apply kf_out; focus rfl))) (by repeat (first | exact kl_nil | exact kl_rest (by assumption) rfl | (apply kl_in; focus rfl) | (apply kl_out; focus rfl))) ?_ ?_ ?_ ?_
  · exact ⟨by omega, by decide, rfl⟩
  · exact ⟨rfl, rfl, rfl, trivial⟩
  · exact trivial
  rintro i n ⟨hp1, hp2, hp3⟩
  refine T_seq ?_
  refine T_seq ?_
  refine T_region ?_
  refine S_ 6 rfl rfl rfl _ (y_move rfl rfl) ?_
  refine S_ 7 rfl rfl rfl _ (y_move rfl rfl) ?_
  refine S_ 8 rfl rfl rfl _ (y_len_str rfl rfl Tryd.underlying9) ?_
  refine S_ 9 rfl rfl rfl _ (y_bin rfl rfl rfl (fun _ => b_lss)) ?_
  refine S_ 10 rfl rfl rfl _ (y_move rfl rfl) ?_
  refine Sg_ 11 rfl rfl rfl rfl rfl rfl _ (y_move rfl rfl) ?_
  refine Sg_ 12 rfl rfl rfl rfl rfl rfl _ (y_bin rfl rfl rfl (fun _ => b_lss)) ?_
  refine S_ 13 rfl rfl rfl _ (y_and rfl rfl rfl) ?_
  refine S_go (fun _ _ h => h) ?_
  refine T_cond rfl (fun h13 => ?_) (fun h13 => ?_)
  · try simp only [decide_eq_true_eq, decide_eq_false_iff_not, Bool.or_eq_true, Bool.or_eq_false_iff, Bool.and_eq_true, Bool.and_eq_false_iff, Bool.not_eq_true', Bool.not_eq_false', Bool.not_eq_true, Bool.not_eq_false, Bool.not_true, Bool.not_false, Int.not_lt, Int.not_le, not_or, not_and, Classical.not_not] at h13
    have hq := term_le (d := (s.getD i 0).toNat) (show i ≤ 7 by omega)
    have hn := pow7 (show i ≤ 7 by omega)
    have hu := (s.getD i 0).toNat_lt
    refine T_skip_go (fun _ _ h => h) ?_
    refine T_block ?_
    refine T_seq ?_
    refine T_region ?_
    refine S_ 14 rfl rfl rfl _ (y_move rfl rfl) ?_
    refine S_ 15 rfl rfl rfl _ (y_move rfl rfl) ?_
    refine S_ 16 rfl rfl rfl _ (y_index_str rfl rfl rfl Tryd.underlying9 (fun _ => by omega)) ?_
    refine S_ 17 rfl rfl rfl _ (y_conv64 rfl rfl Tryd.underlying5 Tryd.underlying3 (fun _ => by omega)) ?_
    refine S_ 5 rfl rfl rfl _ (y_assign rfl rfl) ?_
    refine S_go (fun _ _ h => h) ?_
    refine T_seq ?_
    refine T_region ?_
    refine S_ 18 rfl rfl rfl _ (y_move rfl rfl) ?_
    refine S_ 19 rfl rfl rfl _ (y_move rfl rfl) ?_
    refine S_ 20 rfl rfl rfl _ (y_bin rfl rfl rfl (fun hg => b_remv ((((s.getD i 0).toNat % 128 : Nat) : Int)) (by omega) (by omega) (by omega) (by omega))) ?_
    refine S_ 21 rfl rfl rfl _ (y_move rfl rfl) ?_
    refine S_ 22 rfl rfl rfl _ (y_bin rfl rfl rfl (fun hg => b_mul (by omega))) ?_
    refine S_ 23 rfl rfl rfl _ (y_bin rfl rfl rfl (fun _ => b_shlv (((s.getD i 0).toNat % 128 * 2 ^ (7 * i) : Nat) : Int) (by omega) (by omega) shl_val (by omega))) ?_
    refine S_ 24 rfl rfl rfl _ (y_bin rfl rfl rfl (fun hg => b_addv (((n + (s.getD i 0).toNat % 128 * 2 ^ (7 * i) : Nat) : Int)) (by omega) (by omega))) ?_
    refine S_ 2 rfl rfl rfl _ (y_assign rfl rfl) ?_
    refine S_go (fun _ _ h => h) ?_
    refine T_seq ?_
    refine T_region ?_
    refine S_ 25 rfl rfl rfl _ (y_move rfl rfl) ?_
    refine S_ 26 rfl rfl rfl _ (y_bin rfl rfl rfl (fun hg => b_addv (((i + 1 : Nat) : Int)) (by omega) (by omega))) ?_
    refine S_ 3 rfl rfl rfl _ (y_assign rfl rfl) ?_
    refine S_go (fun _ _ h => h) ?_
    refine T_seq ?_
    refine T_seq ?_
    refine T_region ?_
    refine S_ 27 rfl rfl rfl _ (y_move rfl rfl) ?_
    refine S_ 28 rfl rfl rfl _ (y_bin rfl rfl rfl (fun _ => b_geq)) ?_
    refine S_go (fun _ _ h => h) ?_
    refine T_cond rfl (fun h28 => ?_) (fun h28 => ?_)
    · try simp only [decide_eq_true_eq, decide_eq_false_iff_not, Bool.or_eq_true, Bool.or_eq_false_iff, Bool.and_eq_true, Bool.and_eq_false_iff, Bool.not_eq_true', Bool.not_eq_false', Bool.not_eq_true, Bool.not_eq_false, Bool.not_true, Bool.not_false, Int.not_lt, Int.not_le, not_or, not_and, Classical.not_not] at h28
      refine T_exit (nextK2 (kf := [(0, 0), (2, 40)]) (kl := [(2, 40)]) (i + 1) (n + (s.getD i 0).toNat % 128 * 2 ^ (7 * i)) (by repeat (first | exact kf_nil | (apply kf_in; focus rfl) | (apply kf_out; focus rfl))) (by repeat (first | exact kl_nil | exact kl_rest (by assumption) rfl | (apply kl_in; focus rfl) | (apply kl_out; focus rfl))) ?_ ?_ ?_ ?_)
      · omega
      · exact ⟨by omega, term_lt hp2, by rw [hp3]; exact rd_more (by omega) (by omega) (by omega)⟩
      · exact ⟨rfl, rfl, rfl, trivial⟩
      · exact trivial
    · try simp only [decide_eq_true_eq, decide_eq_false_iff_not, Bool.or_eq_true, Bool.or_eq_false_iff, Bool.and_eq_true, Bool.and_eq_false_iff, Bool.not_eq_true', Bool.not_eq_false', Bool.not_eq_true, Bool.not_eq_false, Bool.not_true, Bool.not_false, Int.not_lt, Int.not_le, not_or, not_and, Classical.not_not] at h28
      refine T_skip_go (fun _ _ h => h) ?_
      refine T_seq ?_
      refine T_seq ?_
      refine T_region ?_
      refine S_ 29 rfl rfl rfl _ (y_move rfl rfl) ?_
      refine S_ 30 rfl rfl rfl _ (y_bin rfl rfl rfl (fun _ => b_eql)) ?_
      refine S_ 31 rfl rfl rfl _ (y_move rfl rfl) ?_
      refine Sg_ 32 rfl rfl rfl rfl rfl rfl _ (y_move rfl rfl) ?_
      refine Sg_ 33 rfl rfl rfl rfl rfl rfl _ (y_bin rfl rfl rfl (fun _ => b_gtr)) ?_
      refine S_ 34 rfl rfl rfl _ (y_and rfl rfl rfl) ?_
      refine S_ 35 rfl rfl rfl _ (y_move rfl rfl) ?_
      refine Sg_ 36 rfl rfl rfl rfl rfl rfl _ (y_move rfl rfl) ?_
      refine Sg_ 37 rfl rfl rfl rfl rfl rfl _ (y_bin rfl rfl rfl (fun _ => b_gtr)) ?_
      refine S_ 38 rfl rfl rfl _ (y_or rfl rfl rfl) ?_
      refine S_go (fun _ _ h => h) ?_
      refine T_cond rfl (fun h38 => ?_) (fun h38 => ?_)
      · try simp only [decide_eq_true_eq, decide_eq_false_iff_not, Bool.or_eq_true, Bool.or_eq_false_iff, Bool.and_eq_true, Bool.and_eq_false_iff, Bool.not_eq_true', Bool.not_eq_false', Bool.not_eq_true, Bool.not_eq_false, Bool.not_true, Bool.not_false, Int.not_lt, Int.not_le, not_or, not_and, Classical.not_not] at h38
        refine T_seq ?_
        refine T_region ?_
        refine S_ 2 rfl rfl rfl _ (y_assign rfl rfl) ?_
        refine S_ 3 rfl rfl rfl _ (y_assign rfl rfl) ?_
        refine S_ 4 rfl rfl rfl _ (y_assign rfl rfl) ?_
        refine S_go (fun _ _ h => h) ?_
        refine T_ret (fun a w hF hM => hRb a w (post3 rfl rfl rfl rfl (fun w hM => ?_) a w hF hM))
        exact ⟨by rw [rdV_none (by rw [hp3]; exact rd_bad (by omega) (by omega) (by omega) (by omega))], hM.below⟩
      · try simp only [decide_eq_true_eq, decide_eq_false_iff_not, Bool.or_eq_true, Bool.or_eq_false_iff, Bool.and_eq_true, Bool.and_eq_false_iff, Bool.not_eq_true', Bool.not_eq_false', Bool.not_eq_true, Bool.not_eq_false, Bool.not_true, Bool.not_false, Int.not_lt, Int.not_le, not_or, not_and, Classical.not_not] at h38
        refine T_skip_go (fun _ _ h => h) ?_
        refine T_seq ?_
        refine T_region ?_
        refine S_ 39 rfl rfl rfl _ (y_move rfl rfl) ?_
        refine S_ 40 rfl rfl rfl _ (y_move rfl rfl) ?_
        refine S_ 2 rfl rfl rfl _ (y_assign rfl rfl) ?_
        refine S_ 3 rfl rfl rfl _ (y_assign rfl rfl) ?_
        refine S_ 4 rfl rfl rfl _ (y_assign rfl rfl) ?_
        refine S_go (fun _ _ h => h) ?_
        refine T_ret (fun a w hF hM => hRb a w (post3 rfl rfl rfl rfl (fun w hM => ?_) a w hF hM))
        exact ⟨by rw [rdV_some (by rw [hp3]; exact rd_good (by omega) (by omega) (by omega) (by omega))], hM.below⟩
  · try simp only [decide_eq_true_eq, decide_eq_false_iff_not, Bool.or_eq_true, Bool.or_eq_false_iff, Bool.and_eq_true, Bool.and_eq_false_iff, Bool.not_eq_true', Bool.not_eq_false', Bool.not_eq_true, Bool.not_eq_false, Bool.not_true, Bool.not_false, Int.not_lt, Int.not_le, not_or, not_and, Classical.not_not] at h13
    refine T_exit_go (fun _ _ h => h) ?_
    refine T_seq ?_
    refine T_region ?_
    refine S_ 2 rfl rfl rfl _ (y_assign rfl rfl) ?_
    refine S_ 3 rfl rfl rfl _ (y_assign rfl rfl) ?_
    refine S_ 4 rfl rfl rfl _ (y_assign rfl rfl) ?_
    refine S_go (fun _ _ h => h) ?_
    refine T_ret (fun a w hF hM => hRb a w (post3 rfl rfl rfl rfl (fun w hM => ?_) a w hF hM))
    exact ⟨by rw [rdV_none (by rw [hp3]; exact rd_end (by omega))], hM.below⟩

/-- The two readers agree: seven digits that all have a follower are a number beyond the greatest one. -/
theorem rd_7 : ∀ (l : List UInt8) (i n : Nat), i ≤ 7 → rd 8 l i n = rd 7 l i n
  | [], _, _, _ => rfl
  | d :: r, i, n, h => by
    simp only [rd]
    by_cases h7 : i = 7
    · subst h7
      rw [if_neg (show ¬ 8 ≤ 7 by decide), if_pos (show 7 ≤ 7 by decide)]
      by_cases hd : 128 ≤ d.toNat
      · rw [if_pos hd]
        cases r with
        | nil => rfl
        | cons e r => simp [rd]
      · rw [if_neg hd]
        refine if_pos ?_
        by_cases h0 : d.toNat = 0
        · exact .inr ⟨h0, by decide⟩
        · left
          have : 1 * 2 ^ (7 * 7) ≤ d.toNat % 128 * 2 ^ (7 * 7) := Nat.mul_le_mul_right _ (by omega)
          omega
    · rw [if_neg (show ¬ 8 ≤ i by omega), if_neg (show ¬ 7 ≤ i by omega)]
      rw [rd_7 r (i + 1) _ (by omega)]
theorem rdV_same (s : List UInt8) : rdV 8 s = rdV 7 s := by unfold rdV; rw [rd_7 s 0 0 (by decide)]
end Go.Proofs.YtofolhnecfkjkaaDoor
