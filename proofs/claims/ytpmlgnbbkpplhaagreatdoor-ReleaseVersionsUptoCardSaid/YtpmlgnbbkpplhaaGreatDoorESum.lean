/- The digest of a string: Sum, FormatUint in base 16 and Repeat of a nought. Conditions: the table of trailing noughts holds Go's numbers. -/
import Derived.Test.YtpmlgnbbkpplhaaGreatDoorEChk
import Derived.Test.YtpmlgnbbkpplhaaGreatDoorArr
namespace Go.Proofs.YtpmlgnbbkpplhaaGreatDoor
set_option linter.unusedSimpArgs false
set_option linter.unusedVariables false
set_option maxRecDepth 20000
open Go.RowKit Go.Eng
def digs : List UInt8 := [48, 49, 50, 51, 52, 53, 54, 55, 56, 57, 97, 98, 99, 100, 101, 102, 103, 104, 105, 106, 107, 108, 109, 110, 111, 112, 113, 114, 115, 116, 117, 118, 119, 120, 121, 122]
def dig (n : Nat) : UInt8 := digs.getD n 0
/-- the digits of base 16 -/
def hexA (u : Nat) (acc : List UInt8) : List UInt8 := if h : u < 16 then dig u :: acc else hexA (u / 16) (dig (u % 16) :: acc)
termination_by u
decreasing_by omega
theorem hexA_end {u : Nat} {acc : List UInt8} (h : u < 16) : hexA u acc = dig u :: acc := by rw [hexA, dif_pos h]
theorem hexA_next {u : Nat} {acc : List UInt8} (h : ¬ u < 16) : hexA u acc = hexA (u / 16) (dig (u % 16) :: acc) := by rw [hexA, dif_neg h]
theorem and15 (u : Nat) (h : u < 18446744073709551616) : Value.int .u64 (bits .and .u64 (u : Int) 15) = .int .u64 ((u % 16 : Nat) : Int) := by
  have e : (BitVec.ofInt 64 (u : Int) &&& BitVec.ofInt 64 15).toNat = u % 16 := by
    rw [BitVec.toNat_and]
    have e1 : (BitVec.ofInt 64 (u : Int)).toNat = u := by
      rw [BitVec.ofInt_natCast, BitVec.toNat_ofNat]; exact Nat.mod_eq_of_lt h
    have e2 : (BitVec.ofInt 64 15).toNat = 15 := by decide
    rw [e1, e2, show (15 : Nat) = 2 ^ 4 - 1 from rfl, Nat.and_two_pow_sub_one_eq_mod]
  have e3 : bits .and .u64 (u : Int) 15 = IntKind.u64.wrap (((BitVec.ofInt 64 (u : Int) &&& BitVec.ofInt 64 15).toNat : Nat) : Int) := rfl
  rw [e3, e, wrap_in .u64 _ ⟨by show (0 : Int) ≤ _; omega, by show _ ≤ (18446744073709551615 : Int); omega⟩]
/-- Go's table holds the number of trailing noughts of 16 -/
def TzTab (w : World) : Prop := w.cell? ⟨7, 15, none⟩ = some (.int .u8 4) ∧ 7 < w.heap.size
theorem TzTab.below {w w' : World} (h : TzTab w) (hb : Below w.heap.size w w') : TzTab w' := ⟨(hb.cell h.2).trans h.1, Nat.lt_of_lt_of_le h.2 hb.size⟩
theorem isPow_any (w : World) : Calls Tryz.prog 309 #[.int .i64 16] w fun e w' => e = .returned (.bool true) ∧ Below w.heap.size w w' := by
  refine enter_args (args := [.int .i64 16]) (F := _) Tryz.func309 rfl Tryz.ntmps309 rfl rfl ?_
  intro Rb hRb hRn
  refine T_seq ?_
  refine T_region ?_
  refine S_ 2 rfl rfl rfl _ (y_assign rfl rfl) ?_
  refine S_go (fun _ _ h => h) ?_
  refine T_seq ?_
  refine T_region ?_
  refine S_ 3 rfl rfl rfl _ (y_move rfl rfl) ?_
  refine S_ 4 rfl rfl rfl _ (y_move rfl rfl) ?_
  refine S_ 5 rfl rfl rfl _ (y_bin rfl rfl rfl (fun hg => b_sub (by omega))) ?_
  refine S_ 6 rfl rfl rfl _ (y_as (v' := .int .i64 0) (by exact rfl) (y_bin rfl rfl rfl (fun _ => b_and))) ?_
  refine S_ 7 rfl rfl rfl _ (y_as (v' := .bool true) (by exact rfl) (y_bin rfl rfl rfl (fun _ => b_eql))) ?_
  refine S_ 2 rfl rfl rfl _ (y_assign rfl rfl) ?_
  refine S_go (fun _ _ h => h) ?_
  refine T_ret (fun a w hF hM => hRb a w (post1 rfl rfl (fun w hM => ?_) a w hF hM))
  exact ⟨rfl, hM.below⟩
theorem tz64_any (w : World) (hT : TzTab w) : Calls Tryz.prog 319 #[.int .u64 16] w fun e w' => e = .returned (.int .i64 4) ∧ Below w.heap.size w w' := by
  refine enter_args (args := [.int .u64 16]) (F := _) Tryz.func319 rfl Tryz.ntmps319 rfl rfl ?_
  intro Rb hRb hRn
  refine T_seq ?_
  refine T_region ?_
  refine S_ 2 rfl rfl rfl _ (y_assign rfl rfl) ?_
  refine S_go (fun _ _ h => h) ?_
  refine T_seq ?_
  refine T_seq ?_
  refine T_region ?_
  refine S_ 3 rfl rfl rfl _ (y_move rfl rfl) ?_
  refine S_ 4 rfl rfl rfl _ (y_bin rfl rfl rfl (fun _ => b_eql)) ?_
  refine S_go (fun _ _ h => h) ?_
  refine T_cond rfl (fun h4 => ?_) (fun h4 => ?_)
  · skip
    exact absurd h4 (by decide)
  · skip
    refine T_skip_go (fun _ _ h => h) ?_
    refine T_seq ?_
    refine T_region ?_
    refine S_ 5 rfl rfl rfl _ (y_move rfl rfl) ?_
    refine S_ 6 rfl rfl rfl _ (y_move rfl rfl) ?_
    refine S_ 7 rfl rfl rfl _ (y_as (v' := .int .u64 18446744073709551600) (by exact rfl) (y_neg (_) rfl rfl (fun hg => rfl))) ?_
    refine S_ 8 rfl rfl rfl _ (y_as (v' := .int .u64 16) (by kernel_rfl) (y_bin rfl rfl rfl (fun _ => b_and))) ?_
    refine S_ 9 rfl rfl rfl _ (y_as (v' := .int .u64 4573923408821661840) (by kernel_rfl) (y_bin rfl rfl rfl (fun hg => b_mulw))) ?_
    refine S_ 10 rfl rfl rfl _ (y_bin rfl rfl rfl (fun hg => b_shrv (15) (by decide) (by decide) (by first | (simp; done) | (simp; omega)))) ?_
    refine S_ 11 rfl rfl rfl _ (y_indexArr (j := 15) rfl rfl rfl Tryz.underlying301 (by decide) sz5 (fun _ => by decide)) ?_
    refine S_ 12 rfl rfl rfl _ (y_load_far rfl rfl hT.1 hT.2 Tryz.underlying5 rfl) ?_
    refine S_ 13 rfl rfl rfl _ (y_conv64 rfl rfl Tryz.underlying5 Tryz.underlying3 (fun _ => by omega)) ?_
    refine S_ 2 rfl rfl rfl _ (y_assign rfl rfl) ?_
    refine S_go (fun _ _ h => h) ?_
    refine T_ret (fun a w hF hM => hRb a w (post1 rfl rfl (fun w hM => ?_) a w hF hM))
    exact ⟨rfl, hM.below⟩
theorem tz_any (w : World) (hT : TzTab w) : Calls Tryz.prog 310 #[.int .u64 16] w fun e w' => e = .returned (.int .i64 4) ∧ Below w.heap.size w w' := by
  refine enter_args (args := [.int .u64 16]) (F := _) Tryz.func310 rfl Tryz.ntmps310 rfl rfl ?_
  intro Rb hRb hRn
  refine T_seq ?_
  refine T_region ?_
  refine S_ 2 rfl rfl rfl _ (y_assign rfl rfl) ?_
  refine S_go (fun _ _ h => h) ?_
  refine T_seq ?_
  refine T_cond rfl (fun hNone => ?_) (fun hNone => ?_)
  · skip
    cases hNone
  · skip
    refine T_skip_go (fun _ _ h => h) ?_
    refine T_seq ?_
    refine T_region ?_
    refine S_ 6 rfl rfl rfl _ (y_move rfl rfl) ?_
    refine S_ 7 rfl rfl rfl _ (y_call rfl rfl rfl cf319 (fun _ w hM => tz64_any w (hT.below hM.below))) ?_
    refine S_ 2 rfl rfl rfl _ (y_assign rfl rfl) ?_
    refine S_go (fun _ _ h => h) ?_
    refine T_ret (fun a w hF hM => hRb a w (post1 rfl rfl (fun w hM => ?_) a w hF hM))
    exact ⟨rfl, hM.below⟩
theorem pow_16 {u k : Nat} (h : u < 16 ^ k) (h1 : 16 ≤ u) : u / 16 < 16 ^ (k - 1) ∧ 2 ≤ k := by
  have hk : 2 ≤ k := by
    rcases Nat.lt_or_ge k 2 with h2 | h2
    · have : 16 ^ k ≤ 16 ^ 1 := Nat.pow_le_pow_right (by decide) (by omega)
      omega
    · exact h2
  obtain ⟨j, rfl⟩ : ∃ j, k = j + 1 := ⟨k - 1, by omega⟩
  rw [Nat.pow_succ] at h
  exact ⟨by simp only [Nat.add_sub_cancel]; omega, hk⟩
theorem pow_64 {u k : Nat} (h : u < 16 ^ (16 - k)) : u < 18446744073709551616 := by
  have : 16 ^ (16 - k) ≤ 16 ^ 16 := Nat.pow_le_pow_right (by decide) (by omega)
  have e : (16 : Nat) ^ 16 = 18446744073709551616 := by decide
  omega
theorem formatBits_any (h : Nat) (hh : h < 18446744073709551616) (w : World) (hT : TzTab w) :
    Calls Tryz.prog 282 #[.slice none 0 0, .int .u64 (h : Int), .int .i64 16, .bool false, .bool false] w fun e w' => e = .returned (.tuple #[.slice none 0 0, str (hexA h [])]) ∧ Below w.heap.size w w' := by
  refine enter_args (args := [.slice none 0 0, .int .u64 (h : Int), .int .i64 16, .bool false, .bool false]) (F := _) Tryz.func282 rfl Tryz.ntmps282 rfl rfl ?_
  intro Rb hRb hRn
  refine T_seq ?_
  refine T_region ?_
  refine S_nilSlice 10 (e := 5) (size := 1) ?_
  refine S_ 10 rfl rfl rfl _ (y_assign rfl rfl) ?_
  refine S_ 11 rfl rfl rfl _ (y_assign rfl rfl) ?_
  refine S_go (fun _ _ h => h) ?_
  refine T_seq ?_
  refine T_seq ?_
  refine T_region ?_
  refine S_ 19 rfl rfl rfl _ (y_move rfl rfl) ?_
  refine S_ 20 rfl rfl rfl _ (y_bin rfl rfl rfl (fun _ => b_lss)) ?_
  refine S_ 21 rfl rfl rfl _ (y_move rfl rfl) ?_
  refine Sg_ 22 rfl rfl rfl rfl rfl rfl _ (y_move rfl rfl) ?_
  refine Sg_ 23 rfl rfl rfl rfl rfl rfl _ (y_bin rfl rfl rfl (fun _ => b_eql)) ?_
  refine S_ 24 rfl rfl rfl _ (y_or rfl rfl rfl) ?_
  refine S_ 25 rfl rfl rfl _ (y_move rfl rfl) ?_
  refine Sg_ 26 rfl rfl rfl rfl rfl rfl _ (y_move rfl rfl) ?_
  refine Sg_ 27 rfl rfl rfl rfl rfl rfl _ (y_bin rfl rfl rfl (fun _ => b_gtr)) ?_
  refine S_ 28 rfl rfl rfl _ (y_or rfl rfl rfl) ?_
  refine S_go (fun _ _ h => h) ?_
  refine T_cond rfl (fun h28 => ?_) (fun h28 => ?_)
  · skip
    exact absurd h28 (by decide)
  · skip
    refine T_skip_go (fun _ _ h => h) ?_
    refine T_seq ?_
    refine T_region ?_
    refine S_alloc 12 12 rfl rfl rfl rfl z286 ?_
    intro b12
    refine S_go (fun _ _ h => h) ?_
    refine T_seq ?_
    refine T_region ?_
    refine S_ 13 rfl rfl rfl _ (y_assign rfl rfl) ?_
    refine S_go (fun _ _ h => h) ?_
    refine T_seq ?_
    refine T_seq ?_
    refine T_region ?_
    refine S_ 30 rfl rfl rfl _ (y_move rfl rfl) ?_
    refine S_go (fun _ _ h => h) ?_
    refine T_cond rfl (fun h30 => ?_) (fun h30 => ?_)
    · skip
      cases h30
    · skip
      refine T_skip_go (fun _ _ h => h) ?_
      refine T_seq ?_
      refine T_seq ?_
      refine T_region ?_
      refine S_ 33 rfl rfl rfl _ (y_move rfl rfl) ?_
      refine S_ 34 rfl rfl rfl _ (y_call rfl rfl rfl cf309 (fun _ w _ => isPow_any w)) ?_
      refine S_go (fun _ _ h => h) ?_
      refine T_cond rfl (fun h34 => ?_) (fun h34 => ?_)
      · skip
        refine T_seq ?_
        refine T_region ?_
        refine S_ 35 rfl rfl rfl _ (y_move rfl rfl) ?_
        refine S_ 36 rfl rfl rfl _ (y_as (v' := .int .u64 16) (by exact rfl) (y_conv rfl rfl Tryz.underlying3 Tryz.underlying211)) ?_
        refine S_ 37 rfl rfl rfl _ (y_call rfl rfl rfl cf310 (fun _ w hM => tz_any w (hT.below hM.below))) ?_
        refine S_ 38 rfl rfl rfl _ (y_as (v' := .int .u64 4) (by exact rfl) (y_conv rfl rfl Tryz.underlying3 Tryz.underlying211)) ?_
        refine S_ 14 rfl rfl rfl _ (y_assign rfl rfl) ?_
        refine S_go (fun _ _ h => h) ?_
        refine T_seq ?_
        refine T_region ?_
        refine S_ 39 rfl rfl rfl _ (y_move rfl rfl) ?_
        refine S_ 40 rfl rfl rfl _ (y_as (v' := .int .u64 16) (by exact rfl) (y_conv rfl rfl Tryz.underlying3 Tryz.underlying238)) ?_
        refine S_ 15 rfl rfl rfl _ (y_assign rfl rfl) ?_
        refine S_go (fun _ _ h => h) ?_
        refine T_seq ?_
        refine T_region ?_
        refine S_ 41 rfl rfl rfl _ (y_move rfl rfl) ?_
        refine S_ 42 rfl rfl rfl _ (y_as (v' := .int .u64 16) (by exact rfl) (y_conv rfl rfl Tryz.underlying3 Tryz.underlying211)) ?_
        refine S_ 43 rfl rfl rfl _ (y_as (v' := .int .u64 15) (by exact rfl) (y_bin rfl rfl rfl (fun hg => b_subw))) ?_
        refine S_ 16 rfl rfl rfl _ (y_assign rfl rfl) ?_
        refine S_go (fun _ _ h => h) ?_
        refine T_seq ?_
        refine T_block ?_
        refine T_loopK3 (kf := [(1, 1), (13, 13), (44, 57)]) (kl := [(1, 1), (12, 13), (44, 57)]) (fun (u : Nat) (acc : List UInt8) (cs : List Value) => [(1, true, .int .u64 (u : Int)), (13, true, .int .i64 ((65 - acc.length : Nat) : Int))]) (fun (u : Nat) (acc : List UInt8) (cs : List Value) => [(12, .blk b12 (IsBox cs 286))]) (fun (u : Nat) (acc : List UInt8) (cs : List Value) => hexA h [] = hexA u acc ∧ acc.length ≤ 15 ∧ u < 16 ^ (16 - acc.length) ∧ cs.length = 65 ∧ cs.drop (65 - acc.length) = bytesV acc) (fun (u : Nat) (acc : List UInt8) (cs : List Value) => u) h [] (List.replicate 65 (.int .u8 0)) (by repeat (first | exact kf_nil | (apply kf_in; focus rfl) | (apply kf_out; focus rfl))) (by repeat (first | exact kl_nil | exact kl_rest (by assumption) rfl | (apply kl_in; focus rfl) | (apply kl_out; focus rfl))) ?_ ?_ ?_ ?_
        · exact ⟨rfl, by decide, hh, rfl, rfl⟩
        · exact ⟨rfl, rfl, trivial⟩
        · exact ⟨rfl, trivial⟩
        rintro u acc cs ⟨hp1, hp2, hp3, hp4, hp5⟩
        refine T_seq ?_
        refine T_seq ?_
        refine T_region ?_
        refine S_ 44 rfl rfl rfl _ (y_move rfl rfl) ?_
        refine S_ 45 rfl rfl rfl _ (y_move rfl rfl) ?_
        refine S_ 46 rfl rfl rfl _ (y_bin rfl rfl rfl (fun _ => b_geq)) ?_
        refine S_go (fun _ _ h => h) ?_
        refine T_cond rfl (fun h46 => ?_) (fun h46 => ?_)
        · try simp only [decide_eq_true_eq, decide_eq_false_iff_not, Bool.or_eq_true, Bool.or_eq_false_iff, Bool.and_eq_true, Bool.and_eq_false_iff, Bool.not_eq_true', Bool.not_eq_false', Bool.not_eq_true, Bool.not_eq_false, Bool.not_true, Bool.not_false, Int.not_lt, Int.not_le, not_or, not_and, Classical.not_not] at h46
          have hpw := pow_16 hp3 (by omega)
          have hu64 := pow_64 hp3
          refine T_skip_go (fun _ _ h => h) ?_
          refine T_block ?_
          refine T_seq ?_
          refine T_region ?_
          refine S_ 47 rfl rfl rfl _ (y_move rfl rfl) ?_
          refine S_ 48 rfl rfl rfl _ (y_bin rfl rfl rfl (fun hg => b_subv (((65 - (acc.length + 1) : Nat) : Int)) (by omega) (by omega))) ?_
          refine S_ 13 rfl rfl rfl _ (y_assign rfl rfl) ?_
          refine S_go (fun _ _ h => h) ?_
          refine T_seq ?_
          refine T_region ?_
          refine S_ 49 rfl rfl rfl _ (y_move rfl rfl) ?_
          refine S_ 50 rfl rfl rfl _ (y_move rfl rfl) ?_
          refine S_ 51 rfl rfl rfl _ (y_move rfl rfl) ?_
          refine S_ 52 rfl rfl rfl _ (y_as (v' := .int .u64 ((u % 16 : Nat) : Int)) (by exact and15 u hu64) (y_bin rfl rfl rfl (fun _ => b_and))) ?_
          refine S_ 53 rfl rfl rfl _ (y_index_str (j := u % 16) (s := digs) rfl rfl rfl Tryz.underlying9 (fun _ => Nat.lt_of_lt_of_le (Nat.mod_lt _ (by decide)) (by decide))) ?_
          refine S_ 54 rfl rfl rfl _ (y_indexArr (j := 65 - (acc.length + 1)) rfl rfl rfl Tryz.underlying286 (by decide) sz5 (fun _ => by omega)) ?_
          refine S_store 12 rfl rfl rfl rfl rfl rfl sz5 rfl (Nat.ble_eq_true_of_le (by rw [hp4]; show 65 - (acc.length + 1) + 1 ≤ 65; omega)) ?_
          refine S_go (fun _ _ h => h) ?_
          refine T_region ?_
          refine S_ 55 rfl rfl rfl _ (y_move rfl rfl) ?_
          refine S_ 56 rfl rfl rfl _ (y_move rfl rfl) ?_
          refine S_ 57 rfl rfl rfl _ (y_bin rfl rfl rfl (fun hg => b_shrv (((u / 16 : Nat) : Int)) (by decide) (by decide) (by first | (simp; done) | (simp; omega)))) ?_
          refine S_ 1 rfl rfl rfl _ (y_assign rfl rfl) ?_
          refine S_nil (nextK3 (kf := [(1, 1), (13, 13), (44, 57)]) (kl := [(1, 1), (12, 13), (44, 57)]) (u / 16) (dig (u % 16) :: acc) (spl cs (65 - (acc.length + 1)) [.int .u8 ((dig (u % 16)).toNat : Int)]) (by repeat (first | exact kf_nil | (apply kf_in; focus rfl) | (apply kf_out; focus rfl))) (by repeat (first | exact kl_nil | exact kl_rest (by assumption) rfl | (apply kl_in; focus rfl) | (apply kl_out; focus rfl))) ?_ ?_ ?_ ?_)
          · omega
          · exact ⟨by rw [hp1, hexA_next (by omega)], by simp only [List.length_cons]; omega, by have := hpw.1; rw [show 16 - (dig (u % 16) :: acc).length = 16 - acc.length - 1 from by simp only [List.length_cons]; omega]; exact this, by rw [spl_len (by simp; omega), hp4], by simp only [List.length_cons]; rw [spl_drop (by omega), show 65 - (acc.length + 1) + 1 = 65 - acc.length from by omega, hp5]; rfl⟩
          · exact ⟨rfl, rfl, trivial⟩
          · exact ⟨rfl, trivial⟩
        · try simp only [decide_eq_true_eq, decide_eq_false_iff_not, Bool.or_eq_true, Bool.or_eq_false_iff, Bool.and_eq_true, Bool.and_eq_false_iff, Bool.not_eq_true', Bool.not_eq_false', Bool.not_eq_true, Bool.not_eq_false, Bool.not_true, Bool.not_false, Int.not_lt, Int.not_le, not_or, not_and, Classical.not_not] at h46
          have hu64 := pow_64 hp3
          refine T_exit_go (fun _ _ h => h) ?_
          refine T_seq ?_
          refine T_region ?_
          refine S_ 58 rfl rfl rfl _ (y_move rfl rfl) ?_
          refine S_ 59 rfl rfl rfl _ (y_bin rfl rfl rfl (fun hg => b_subv (((65 - (acc.length + 1) : Nat) : Int)) (by omega) (by omega))) ?_
          refine S_ 13 rfl rfl rfl _ (y_assign rfl rfl) ?_
          refine S_go (fun _ _ h => h) ?_
          refine T_region ?_
          refine S_ 60 rfl rfl rfl _ (y_move rfl rfl) ?_
          refine S_ 61 rfl rfl rfl _ (y_move rfl rfl) ?_
          refine S_ 62 rfl rfl rfl _ (y_index_str (j := u) (s := digs) rfl rfl rfl Tryz.underlying9 (fun _ => Nat.lt_of_lt_of_le (show u < 16 by omega) (by decide))) ?_
          refine S_ 63 rfl rfl rfl _ (y_indexArr (j := 65 - (acc.length + 1)) rfl rfl rfl Tryz.underlying286 (by decide) sz5 (fun _ => by omega)) ?_
          refine S_store 12 rfl rfl rfl rfl rfl rfl sz5 rfl (Nat.ble_eq_true_of_le (by rw [hp4]; show 65 - (acc.length + 1) + 1 ≤ 65; omega)) ?_
          refine S_go (fun _ _ h => h) ?_
          refine T_seq ?_
          refine T_seq ?_
          refine T_region ?_
          refine S_ 89 rfl rfl rfl _ (y_move rfl rfl) ?_
          refine S_go (fun _ _ h => h) ?_
          refine T_cond rfl (fun h89 => ?_) (fun h89 => ?_)
          · skip
            cases h89
          · skip
            refine T_skip_go (fun _ _ h => h) ?_
            refine T_seq ?_
            refine T_seq ?_
            refine T_region ?_
            refine S_ 94 rfl rfl rfl _ (y_move rfl rfl) ?_
            refine S_go (fun _ _ h => h) ?_
            refine T_cond rfl (fun h94 => ?_) (fun h94 => ?_)
            · skip
              cases h94
            · skip
              refine T_skip_go (fun _ _ h => h) ?_
              refine T_seq ?_
              refine T_region ?_
              refine S_ 99 rfl rfl rfl _ (y_move rfl rfl) ?_
              refine S_ 100 rfl rfl rfl _ (y_sliceArr rfl rfl Tryz.underlying286 sz5 rfl (by omega)) ?_
              refine S_ 101 rfl rfl rfl _ (y_str_box 12 (dig u :: acc) rfl rfl rfl (by simp only [List.length_cons]; omega) (by show (spl cs (65 - (acc.length + 1)) [_]).drop _ = _; rw [spl_drop (by omega), show 65 - (acc.length + 1) + 1 = 65 - acc.length from by omega, hp5]; rfl) Tryz.underlying188 Tryz.underlying5 Tryz.underlying9) ?_
              refine S_ 11 rfl rfl rfl _ (y_assign rfl rfl) ?_
              refine S_go (fun _ _ h => h) ?_
              refine T_ret (fun a w hF hM => hRb a w (post2 rfl rfl rfl (fun w hM => ?_) a w hF hM))
              exact ⟨by rw [hp1, hexA_end (by omega)], hM.below⟩
      · skip
        cases h34
theorem hexA_len : ∀ (u : Nat) (acc : List UInt8), acc.length ≤ 15 → u < 16 ^ (16 - acc.length) → (hexA u acc).length ≤ 16 := by
  intro u
  induction u using Nat.strongRecOn with
  | ind u ih =>
    intro acc h1 h2
    by_cases h : u < 16
    · rw [hexA_end h]; simp only [List.length_cons]; omega
    · have hp := pow_16 h2 (by omega)
      rw [hexA_next h]
      exact ih (u / 16) (by omega) _ (by simp only [List.length_cons]; omega) (by rw [show 16 - (dig (u % 16) :: acc).length = 16 - acc.length - 1 from by simp only [List.length_cons]; omega]; exact hp.1)
/-- the digest -/
def sumN (h : Nat) (c : UInt8) : Nat := ((h ^^^ c.toNat) * 1099511628211) % 18446744073709551616
def sumF (h : Nat) : List UInt8 → Nat
  | [] => h
  | c :: r => sumF (sumN h c) r
def sum0 : Nat := 14695981039346656037
def sumS (s : List UInt8) : List UInt8 := List.replicate (16 - (hexA (sumF sum0 s) []).length) 48 ++ hexA (sumF sum0 s) []
theorem xorN (h c : Nat) (hh : h < 18446744073709551616) (hc : c < 18446744073709551616) : bits .xor .u64 (h : Int) (c : Int) = ((h ^^^ c : Nat) : Int) := by
  have e : (BitVec.ofInt 64 (h : Int) ^^^ BitVec.ofInt 64 (c : Int)).toNat = h ^^^ c := by
    rw [BitVec.toNat_xor]
    have e1 : ∀ u : Nat, u < 18446744073709551616 → (BitVec.ofInt 64 (u : Int)).toNat = u := fun u hu => by
      rw [BitVec.ofInt_natCast, BitVec.toNat_ofNat]; exact Nat.mod_eq_of_lt hu
    rw [e1 h hh, e1 c hc]
  have e3 : bits .xor .u64 (h : Int) (c : Int) = IntKind.u64.wrap (((BitVec.ofInt 64 (h : Int) ^^^ BitVec.ofInt 64 (c : Int)).toNat : Nat) : Int) := rfl
  have hl : h ^^^ c < 2 ^ 64 := Nat.xor_lt_two_pow (by simpa using hh) (by simpa using hc)
  rw [e3, e, wrap_in .u64 _ ⟨by show (0 : Int) ≤ _; omega, by show _ ≤ (18446744073709551615 : Int); omega⟩]
theorem wrapN (a : Nat) : IntKind.u64.wrap (a : Int) = ((a % 18446744073709551616 : Nat) : Int) := by
  have e : IntKind.u64.wrap (a : Int) = (a : Int) % 18446744073709551616 := rfl
  rw [e]; omega
theorem mulN (a : Nat) : Value.int .u64 (IntKind.u64.wrap ((a : Int) * 1099511628211)) = .int .u64 ((a * 1099511628211 % 18446744073709551616 : Nat) : Int) := by
  rw [show ((a : Int) * 1099511628211) = ((a * 1099511628211 : Nat) : Int) from (Int.natCast_mul a 1099511628211).symm, wrapN]
end Go.Proofs.YtpmlgnbbkpplhaaGreatDoor
