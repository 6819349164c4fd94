/- digits writes a natural number in base 128. Conditions: 0 <= n, n at most 2^62. -/
import Derived.Test.YtofolhnecfkjkaaDoorLem
namespace Go.Proofs.YtofolhnecfkjkaaDoor
set_option linter.unusedSimpArgs false
set_option linter.unusedVariables false
set_option maxRecDepth 20000
open Go.RowKit Go.Eng

/-- base 128, the least digits first, a digit that others follow has 128 more -/
def dig128 (n : Nat) : List UInt8 :=
  if h : n < 128 then [UInt8.ofNat n] else UInt8.ofNat (n % 128 + 128) :: dig128 (n / 128)
termination_by n
decreasing_by omega

theorem digits_step {l : List UInt8} {n m : Nat} (h : l ++ dig128 m = dig128 n) (hm : 128 ≤ m) :
    (l ++ [UInt8.ofNat (m % 128 + 128)]) ++ dig128 (m / 128) = dig128 n := by
  rw [← h, show dig128 m = UInt8.ofNat (m % 128 + 128) :: dig128 (m / 128) from by rw [dig128, dif_neg (by omega)]]; simp
theorem dig_last {n : Nat} (h : n < 128) : dig128 n = [UInt8.ofNat n] := by rw [dig128, dif_pos h]
theorem u8_wrap (m : Nat) (h : m < 256) : Value.int .u8 (IntKind.u8.wrap (m : Int)) = .int .u8 ((UInt8.ofNat m).toNat : Int) := by
  rw [IntWalk.u8_in _ ⟨by omega, by omega⟩]; simp [Nat.mod_eq_of_lt h]

theorem dig_len : ∀ (k n : Nat), n < 128 ^ (k + 1) → (dig128 n).length ≤ k + 1
  | 0, n, h => by rw [dig_last (by omega)]; simp
  | k + 1, n, h => by
    by_cases hn : n < 128
    · rw [dig_last hn]; simp
    · rw [dig128, dif_neg hn]
      have := dig_len k (n / 128) (by rw [Nat.div_lt_iff_lt_mul (by decide)]; rw [Nat.pow_succ] at h; exact h)
      simp; omega

theorem digits_any (n : Int) (h0 : 0 ≤ n) (h1 : n ≤ 4611686018427387904) (w : World) :
    Calls Tryd.prog 65 #[.int .i64 n] w fun e w' => e = .returned (str (dig128 n.toNat)) ∧ Below w.heap.size w w' := by
  obtain ⟨N, rfl⟩ := Int.eq_ofNat_of_zero_le h0
  have hlen : (dig128 N).length ≤ 9 := dig_len 8 N (by omega)
  rw [Int.toNat_natCast]
  refine enter_args (args := [.int .i64 N]) (F := _) Tryd.func65 rfl Tryd.ntmps65 rfl rfl ?_
  intro Rb hRb hRn
  refine T_seq ?_
  refine T_region ?_
  refine S_ 2 rfl rfl rfl _ (y_assign rfl rfl) ?_
  refine S_go (fun _ _ h => h) ?_
  refine T_seq ?_
  refine T_region ?_
  refine S_nilSlice 3 (e := 5) (size := 1) ?_
  refine S_ 3 rfl rfl rfl _ (y_assign rfl rfl) ?_
  refine S_go (fun _ _ h => h) ?_
  refine T_seq ?_
  refine T_block ?_
  refine T_loopK4 (kf := [(0, 0), (3, 14)]) (kl := [(0, 0), (3, 14)]) (fun (m : Nat) (l : List UInt8) A c => [(0, true, .int .i64 (m : Int)), (3, true, .slice A l.length c)]) (fun (m : Nat) (l : List UInt8) A c => [(3, .own 5 1 (.slice A l.length c) l.length (bytesV l))]) (fun (m : Nat) (l : List UInt8) A c => m ≤ 4611686018427387904 ∧ l ++ dig128 m = dig128 N) (fun (m : Nat) (l : List UInt8) A c => m) N [] none 0 (by repeat (first | exact kf_nil | (apply kf_in; focus rfl) | (apply kf_out; focus rfl))) (by repeat (first | exact kl_nil | exact kl_rest (by assumption) rfl | (apply kl_in; focus rfl) | (apply kl_out; focus rfl))) ?_ ?_ ?_ ?_
  · exact ⟨by omega, rfl⟩
  · exact ⟨rfl, rfl, trivial⟩
  · exact ⟨rfl, trivial⟩
  rintro m l A c ⟨hp1, hp2⟩
  have hl := congrArg List.length hp2
  rw [List.length_append] at hl
  refine T_seq ?_
  refine T_seq ?_
  refine T_region ?_
  refine S_ 4 rfl rfl rfl _ (y_move rfl rfl) ?_
  refine S_ 5 rfl rfl rfl _ (y_bin rfl rfl rfl (fun _ => b_geq)) ?_
  refine S_go (fun _ _ h => h) ?_
  refine T_cond rfl (fun h5 => ?_) (fun h5 => ?_)
  · try simp only [decide_eq_true_eq, decide_eq_false_iff_not, Bool.or_eq_true, Bool.or_eq_false_iff, Bool.and_eq_true, Bool.and_eq_false_iff, Bool.not_eq_true', Bool.not_eq_false', Bool.not_eq_true, Bool.not_eq_false, Bool.not_true, Bool.not_false, Int.not_lt, Int.not_le, not_or, not_and, Classical.not_not] at h5
    refine T_skip_go (fun _ _ h => h) ?_
    refine T_block ?_
    refine T_seq ?_
    refine T_region ?_
    refine S_ 6 rfl rfl rfl _ (y_move rfl rfl) ?_
    refine S_ 7 rfl rfl rfl _ (y_move rfl rfl) ?_
    refine S_ 8 rfl rfl rfl _ (y_bin rfl rfl rfl (fun hg => b_rem (by omega) (by omega) (by omega))) ?_
    refine S_ 9 rfl rfl rfl _ (y_bin rfl rfl rfl (fun hg => b_add (by omega))) ?_
    refine S_ 10 rfl rfl rfl _ (y_conv rfl rfl Tryd.underlying3 Tryd.underlying5) ?_
    refine S_buildSlice 11 11 rfl rfl rfl rfl rfl Tryd.underlying100 inf5 rfl (by decide) (by decide) rfl rfl (by decide) rfl (_) rfl ?_
    intro b11
    obtain ⟨i12, hi12, hz12, hs12, hy12⟩ := info_parts inf5
    refine S_append 12 3 11 rfl rfl rfl rfl rfl rfl rfl rfl Tryd.underlying100 hi12 hz12 hs12 hy12 rfl (by decide) (by decide) rfl ?_ ?_ ((l ++ [UInt8.ofNat (m % 128 + 128)]).length) (bytesV (l ++ [UInt8.ofNat (m % 128 + 128)])) ?_ ?_ ?_
    · (simp only [maxLen]; omega)
    · omega
    · simp
    · rw [bytesV_snoc, ← u8_wrap (m % 128 + 128) (by omega)]; rfl
    intro A12 c12
    refine S_ 3 rfl rfl rfl _ (y_assign rfl rfl) ?_
    refine S_go (fun _ _ h => h) ?_
    refine T_region ?_
    refine S_ 13 rfl rfl rfl _ (y_move rfl rfl) ?_
    refine S_ 14 rfl rfl rfl _ (y_bin rfl rfl rfl (fun hg => b_quo (by omega) (by omega) (by omega))) ?_
    refine S_ 0 rfl rfl rfl _ (y_assign rfl rfl) ?_
    refine S_nil (nextK4 (kf := [(0, 0), (3, 14)]) (kl := [(0, 0), (3, 14)]) (m / 128) (l ++ [UInt8.ofNat (m % 128 + 128)]) A12 c12 (by repeat (first | exact kf_nil | (apply kf_in; focus rfl) | (apply kf_out; focus rfl))) (by repeat (first | exact kl_nil | exact kl_rest (by assumption) rfl | (apply kl_in; focus rfl) | (apply kl_out; focus rfl))) ?_ ?_ ?_ ?_)
    · omega
    · exact ⟨by omega, digits_step hp2 (by omega)⟩
    · exact ⟨rfl, rfl, trivial⟩
    · exact ⟨rfl, trivial⟩
  · try simp only [decide_eq_true_eq, decide_eq_false_iff_not, Bool.or_eq_true, Bool.or_eq_false_iff, Bool.and_eq_true, Bool.and_eq_false_iff, Bool.not_eq_true', Bool.not_eq_false', Bool.not_eq_true, Bool.not_eq_false, Bool.not_true, Bool.not_false, Int.not_lt, Int.not_le, not_or, not_and, Classical.not_not] at h5
    refine T_exit_go (fun _ _ h => h) ?_
    refine T_seq ?_
    refine T_region ?_
    refine S_ 15 rfl rfl rfl _ (y_move rfl rfl) ?_
    refine S_ 16 rfl rfl rfl _ (y_move rfl rfl) ?_
    refine S_ 17 rfl rfl rfl _ (y_conv rfl rfl Tryd.underlying3 Tryd.underlying5) ?_
    refine S_buildSlice 18 18 rfl rfl rfl rfl rfl Tryd.underlying100 inf5 rfl (by decide) (by decide) rfl rfl (by decide) rfl (_) rfl ?_
    intro b18
    obtain ⟨i19, hi19, hz19, hs19, hy19⟩ := info_parts inf5
    refine S_append 19 3 18 rfl rfl rfl rfl rfl rfl rfl rfl Tryd.underlying100 hi19 hz19 hs19 hy19 rfl (by decide) (by decide) rfl ?_ ?_ ((l ++ [UInt8.ofNat m]).length) (bytesV (l ++ [UInt8.ofNat m])) ?_ ?_ ?_
    · (simp only [maxLen]; omega)
    · omega
    · simp
    · rw [bytesV_snoc, ← u8_wrap m (by omega)]; rfl
    intro A19 c19
    refine S_ 20 rfl rfl rfl _ (y_str_own 3 rfl rfl rfl Tryd.underlying100 Tryd.underlying5 Tryd.underlying9) ?_
    refine S_ 2 rfl rfl rfl _ (y_assign rfl rfl) ?_
    refine S_go (fun _ _ h => h) ?_
    refine T_ret (fun a w hF hM => hRb a w (post1 rfl rfl (fun w hM => ?_) a w hF hM))
    exact ⟨by rw [← hp2, dig_last (n := m) (by omega)], hM.below⟩
end Go.Proofs.YtofolhnecfkjkaaDoor
