/- The reference's taker. Conditions: those of each theorem. -/
import Derived.Test.YtofolhnecfkjkaaDoorRdT
namespace Go.Proofs.YtofolhnecfkjkaaDoor
set_option linter.unusedSimpArgs false
set_option linter.unusedVariables false
set_option maxRecDepth 20000
open Go.RowKit Go.Eng
abbrev tkI (b : Nat) (s : List UInt8) (ok : Bool) : It := .blk b (IsBox [str s, .bool (!ok)] 118)
theorem pres_off {α : Type} {p : Pa α} {s s1 : List UInt8} {x : α} : PRes p s false x s1 false := ⟨by simp, fun h => by cases h⟩
theorem nm_good {s : List UInt8} {ok : Bool} {n k : Nat} (hr : rd 8 s 0 0 = some (n, k)) : PRes nm s ok n (s.drop k) ok := ⟨by simp [nm, hr], fun _ => by simp [nm, hr]⟩
theorem tkr_bad {s x s1 : List UInt8} {ok : Bool} {n : Nat} (h : (!ok || decide ((s.length : Int) < (n : Int))) = true) : PRes (tk n) s ok x s1 false := by
  cases ok with
  | false => exact pres_off
  | true => exact tk_bad (by simpa using h)
theorem tkr_ok {s : List UInt8} {ok : Bool} {n : Nat} (h : (!ok || decide ((s.length : Int) < (n : Int))) = false) : n ≤ s.length := by
  simp at h; omega
theorem tkTake_any {w0 : World} {K : HL} (hK : FromK K) (b n : Nat) (s : List UInt8) (ok : Bool) (w : World) (hM0 : Mem w0 ([(901, tkI b s ok)] ++ K) w) :
    Calls Tryd.prog 70 #[selfP b, .int .i64 (n : Int)] w fun e w' => ∃ z : List UInt8 × List UInt8 × Bool, e = .returned (str z.1) ∧ (PRes (tk n) s ok z.1 z.2.1 z.2.2 ∧ z.1.length ≤ s.length ∧ z.2.1.length ≤ s.length) ∧ Mem w0 ([(901, tkI b z.2.1 z.2.2)] ++ K) w' := by
  refine enterM_args (args := [selfP b, .int .i64 (n : Int)]) (F := _) hM0 Tryd.func70 rfl Tryd.ntmps70 rfl rfl ?_
  intro Rb hRb hRn
  refine T_seq ?_
  refine T_region ?_
  refine S_ 4 rfl rfl rfl _ (y_assign rfl rfl) ?_
  refine S_go (fun _ _ h => h) ?_
  refine T_seq ?_
  refine T_seq ?_
  refine T_region ?_
  refine S_ 6 rfl rfl rfl _ (y_move rfl rfl) ?_
  refine S_ 7 rfl rfl rfl _ (y_nilCheck rfl rfl) ?_
  refine S_ 8 rfl rfl rfl _ (y_fieldAddr rfl rfl fa118_1) ?_
  refine S_ 9 rfl rfl rfl _ (y_load 901 rfl rfl rfl rfl Tryd.underlying4 rfl) ?_
  refine S_ 10 rfl rfl rfl _ (y_move rfl rfl) ?_
  refine Sg_ 11 rfl rfl rfl rfl rfl rfl _ (y_move rfl rfl) ?_
  refine Sg_ 12 rfl rfl rfl rfl rfl rfl _ (y_move rfl rfl) ?_
  refine Sg_ 13 rfl rfl rfl rfl rfl rfl _ (y_nilCheck rfl rfl) ?_
  refine Sg_ 14 rfl rfl rfl rfl rfl rfl _ (y_fieldAddr rfl rfl fa118_0) ?_
  refine Sg_ 15 rfl rfl rfl rfl rfl rfl _ (y_load 901 rfl rfl rfl rfl Tryd.underlying9 rfl) ?_
  refine Sg_ 16 rfl rfl rfl rfl rfl rfl _ (y_len_str rfl rfl Tryd.underlying9) ?_
  refine Sg_ 17 rfl rfl rfl rfl rfl rfl _ (y_bin rfl rfl rfl (fun _ => b_gtr)) ?_
  refine S_ 18 rfl rfl rfl _ (y_or rfl rfl rfl) ?_
  refine S_go (fun _ _ h => h) ?_
  refine T_cond rfl (fun h18 => ?_) (fun h18 => ?_)
  · skip
    refine T_seq ?_
    refine T_region ?_
    refine S_ 19 rfl rfl rfl _ (y_move rfl rfl) ?_
    refine S_ 20 rfl rfl rfl _ (y_nilCheck rfl rfl) ?_
    refine S_ 21 rfl rfl rfl _ (y_fieldAddr rfl rfl fa118_1) ?_
    refine S_store 901 rfl rfl rfl rfl rfl rfl sz4 rfl rfl ?_
    refine S_go (fun _ _ h => h) ?_
    refine T_seq ?_
    refine T_region ?_
    refine S_ 4 rfl rfl rfl _ (y_assign rfl rfl) ?_
    refine S_go (fun _ _ h => h) ?_
    refine T_ret (fun a w hF hM => hRb a w (post1 rfl rfl (fun w hM => ?_) a w hF hM))
    exact ⟨([], s, false), rfl, ⟨tkr_bad h18, by simp, Nat.le_refl _⟩, hM.keep (ks := [(0, 999)]) (by repeat (first | exact kl_rest (by assumption) rfl | (apply kl_in; focus rfl))) _ ⟨rfl, trivial⟩⟩
  · skip
    have hn := tkr_ok h18
    refine T_skip_go (fun _ _ h => h) ?_
    refine T_seq ?_
    refine T_region ?_
    refine S_ 22 rfl rfl rfl _ (y_move rfl rfl) ?_
    refine S_ 23 rfl rfl rfl _ (y_nilCheck rfl rfl) ?_
    refine S_ 24 rfl rfl rfl _ (y_fieldAddr rfl rfl fa118_0) ?_
    refine S_ 25 rfl rfl rfl _ (y_load 901 rfl rfl rfl rfl Tryd.underlying9 rfl) ?_
    refine S_ 26 rfl rfl rfl _ (y_move rfl rfl) ?_
    refine S_ 27 rfl rfl rfl _ (y_strTo rfl rfl rfl Tryd.underlying9 (fun _ => by omega)) ?_
    refine S_ 5 rfl rfl rfl _ (y_assign rfl rfl) ?_
    refine S_go (fun _ _ h => h) ?_
    refine T_seq ?_
    refine T_region ?_
    refine S_ 28 rfl rfl rfl _ (y_move rfl rfl) ?_
    refine S_ 29 rfl rfl rfl _ (y_move rfl rfl) ?_
    refine S_ 30 rfl rfl rfl _ (y_nilCheck rfl rfl) ?_
    refine S_ 31 rfl rfl rfl _ (y_fieldAddr rfl rfl fa118_0) ?_
    refine S_ 32 rfl rfl rfl _ (y_load 901 rfl rfl rfl rfl Tryd.underlying9 rfl) ?_
    refine S_ 33 rfl rfl rfl _ (y_move rfl rfl) ?_
    refine S_ 34 rfl rfl rfl _ (y_strFrom rfl rfl rfl Tryd.underlying9 (fun _ => by omega)) ?_
    refine S_ 35 rfl rfl rfl _ (y_nilCheck rfl rfl) ?_
    refine S_ 36 rfl rfl rfl _ (y_fieldAddr rfl rfl fa118_0) ?_
    refine S_store 901 rfl rfl rfl rfl rfl rfl sz9 rfl rfl ?_
    refine S_go (fun _ _ h => h) ?_
    refine T_seq ?_
    refine T_region ?_
    refine S_ 37 rfl rfl rfl _ (y_move rfl rfl) ?_
    refine S_ 4 rfl rfl rfl _ (y_assign rfl rfl) ?_
    refine S_go (fun _ _ h => h) ?_
    refine T_ret (fun a w hF hM => hRb a w (post1 rfl rfl (fun w hM => ?_) a w hF hM))
    exact ⟨(s.take n, s.drop n, ok), rfl, ⟨tk_res hn, by simp; omega, by simp⟩, hM.keep (ks := [(0, 999)]) (by repeat (first | exact kl_rest (by assumption) rfl | (apply kl_in; focus rfl))) _ ⟨rfl, trivial⟩⟩
theorem tkNum_any {w0 : World} {K : HL} (hK : FromK K) (b : Nat) (s : List UInt8) (ok : Bool) (w : World) (hM0 : Mem w0 ([(901, tkI b s ok)] ++ K) w) :
    Calls Tryd.prog 71 #[selfP b] w fun e w' => ∃ z : Nat × List UInt8 × Bool, e = .returned (.int .i64 (z.1 : Int)) ∧ (PRes nm s ok z.1 z.2.1 z.2.2 ∧ z.2.1.length ≤ s.length ∧ z.1 ≤ 281474976710656) ∧ Mem w0 ([(901, tkI b z.2.1 z.2.2)] ++ K) w' := by
  cases hr : rd 8 s 0 0 with
  | none =>
    refine enterM_args (args := [selfP b]) (F := _) hM0 Tryd.func71 rfl Tryd.ntmps71 rfl rfl ?_
    intro Rb hRb hRn
    refine T_seq ?_
    refine T_region ?_
    refine S_ 2 rfl rfl rfl _ (y_assign rfl rfl) ?_
    refine S_go (fun _ _ h => h) ?_
    refine T_seq ?_
    refine T_region ?_
    refine S_ 7 rfl rfl rfl _ (y_move rfl rfl) ?_
    refine S_ 8 rfl rfl rfl _ (y_nilCheck rfl rfl) ?_
    refine S_ 9 rfl rfl rfl _ (y_fieldAddr rfl rfl fa118_0) ?_
    refine S_ 10 rfl rfl rfl _ (y_load 901 rfl rfl rfl rfl Tryd.underlying9 rfl) ?_
    refine S_ 11 rfl rfl rfl _ (y_as (v' := .tuple #[.int .i64 0, .int .i64 0, .int .i64 8]) (by exact (rdV_same s).symm.trans (rdV_none hr)) (y_call rfl rfl rfl cf111 (fun _ w _ => NumberRead_any _ w))) ?_
    refine S_ 6 rfl rfl rfl _ (y_move rfl rfl) ?_
    refine S_ 12 rfl rfl rfl _ (y_extract rfl rfl rfl) ?_
    refine S_ 13 rfl rfl rfl _ (y_extract rfl rfl rfl) ?_
    refine S_ 14 rfl rfl rfl _ (y_extract rfl rfl rfl) ?_
    refine S_ 3 rfl rfl rfl _ (y_assign rfl rfl) ?_
    refine S_ 4 rfl rfl rfl _ (y_assign rfl rfl) ?_
    refine S_ 5 rfl rfl rfl _ (y_assign rfl rfl) ?_
    refine S_go (fun _ _ h => h) ?_
    refine T_seq ?_
    refine T_seq ?_
    refine T_region ?_
    refine S_ 15 rfl rfl rfl _ (y_move rfl rfl) ?_
    refine S_ 16 rfl rfl rfl _ (y_nilCheck rfl rfl) ?_
    refine S_ 17 rfl rfl rfl _ (y_fieldAddr rfl rfl fa118_1) ?_
    refine S_ 18 rfl rfl rfl _ (y_load 901 rfl rfl rfl rfl Tryd.underlying4 rfl) ?_
    refine S_ 19 rfl rfl rfl _ (y_move rfl rfl) ?_
    refine Sg_ 20 rfl rfl rfl rfl rfl rfl _ (y_move rfl rfl) ?_
    refine Sg_ 21 rfl rfl rfl rfl rfl rfl _ (y_bin rfl rfl rfl (fun _ => b_neq)) ?_
    refine S_ 22 rfl rfl rfl _ (y_or rfl rfl rfl) ?_
    refine S_go (fun _ _ h => h) ?_
    refine T_cond rfl (fun h22 => ?_) (fun h22 => ?_)
    · skip
      refine T_seq ?_
      refine T_region ?_
      refine S_ 23 rfl rfl rfl _ (y_move rfl rfl) ?_
      refine S_ 24 rfl rfl rfl _ (y_nilCheck rfl rfl) ?_
      refine S_ 25 rfl rfl rfl _ (y_fieldAddr rfl rfl fa118_1) ?_
      refine S_store 901 rfl rfl rfl rfl rfl rfl sz4 rfl rfl ?_
      refine S_go (fun _ _ h => h) ?_
      refine T_seq ?_
      refine T_region ?_
      refine S_ 2 rfl rfl rfl _ (y_assign rfl rfl) ?_
      refine S_go (fun _ _ h => h) ?_
      refine T_ret (fun a w hF hM => hRb a w (post1 rfl rfl (fun w hM => ?_) a w hF hM))
      exact ⟨(0, s, false), rfl, ⟨nm_bad hr, Nat.le_refl _, by simp⟩, hM.keep (ks := [(0, 999)]) (by repeat (first | exact kl_rest (by assumption) rfl | (apply kl_in; focus rfl))) _ ⟨rfl, trivial⟩⟩
    · skip
      simp at h22
  | some p =>
    obtain ⟨n, k⟩ := p
    have hb := rd_bounds s 0 0 n k hr
    refine enterM_args (args := [selfP b]) (F := _) hM0 Tryd.func71 rfl Tryd.ntmps71 rfl rfl ?_
    intro Rb hRb hRn
    refine T_seq ?_
    refine T_region ?_
    refine S_ 2 rfl rfl rfl _ (y_assign rfl rfl) ?_
    refine S_go (fun _ _ h => h) ?_
    refine T_seq ?_
    refine T_region ?_
    refine S_ 7 rfl rfl rfl _ (y_move rfl rfl) ?_
    refine S_ 8 rfl rfl rfl _ (y_nilCheck rfl rfl) ?_
    refine S_ 9 rfl rfl rfl _ (y_fieldAddr rfl rfl fa118_0) ?_
    refine S_ 10 rfl rfl rfl _ (y_load 901 rfl rfl rfl rfl Tryd.underlying9 rfl) ?_
    refine S_ 11 rfl rfl rfl _ (y_as (v' := .tuple #[.int .i64 n, .int .i64 k, .int .i64 0]) (by exact (rdV_same s).symm.trans (rdV_some hr)) (y_call rfl rfl rfl cf111 (fun _ w _ => NumberRead_any _ w))) ?_
    refine S_ 6 rfl rfl rfl _ (y_move rfl rfl) ?_
    refine S_ 12 rfl rfl rfl _ (y_extract rfl rfl rfl) ?_
    refine S_ 13 rfl rfl rfl _ (y_extract rfl rfl rfl) ?_
    refine S_ 14 rfl rfl rfl _ (y_extract rfl rfl rfl) ?_
    refine S_ 3 rfl rfl rfl _ (y_assign rfl rfl) ?_
    refine S_ 4 rfl rfl rfl _ (y_assign rfl rfl) ?_
    refine S_ 5 rfl rfl rfl _ (y_assign rfl rfl) ?_
    refine S_go (fun _ _ h => h) ?_
    refine T_seq ?_
    refine T_seq ?_
    refine T_region ?_
    refine S_ 15 rfl rfl rfl _ (y_move rfl rfl) ?_
    refine S_ 16 rfl rfl rfl _ (y_nilCheck rfl rfl) ?_
    refine S_ 17 rfl rfl rfl _ (y_fieldAddr rfl rfl fa118_1) ?_
    refine S_ 18 rfl rfl rfl _ (y_load 901 rfl rfl rfl rfl Tryd.underlying4 rfl) ?_
    refine S_ 19 rfl rfl rfl _ (y_move rfl rfl) ?_
    refine Sg_ 20 rfl rfl rfl rfl rfl rfl _ (y_move rfl rfl) ?_
    refine Sg_ 21 rfl rfl rfl rfl rfl rfl _ (y_bin rfl rfl rfl (fun _ => b_neq)) ?_
    refine S_ 22 rfl rfl rfl _ (y_or rfl rfl rfl) ?_
    refine S_go (fun _ _ h => h) ?_
    refine T_cond rfl (fun h22 => ?_) (fun h22 => ?_)
    · skip
      have e : ok = false := by simpa using h22
      subst e
      refine T_seq ?_
      refine T_region ?_
      refine S_ 23 rfl rfl rfl _ (y_move rfl rfl) ?_
      refine S_ 24 rfl rfl rfl _ (y_nilCheck rfl rfl) ?_
      refine S_ 25 rfl rfl rfl _ (y_fieldAddr rfl rfl fa118_1) ?_
      refine S_store 901 rfl rfl rfl rfl rfl rfl sz4 rfl rfl ?_
      refine S_go (fun _ _ h => h) ?_
      refine T_seq ?_
      refine T_region ?_
      refine S_ 2 rfl rfl rfl _ (y_assign rfl rfl) ?_
      refine S_go (fun _ _ h => h) ?_
      refine T_ret (fun a w hF hM => hRb a w (post1 rfl rfl (fun w hM => ?_) a w hF hM))
      exact ⟨(0, s, false), rfl, ⟨pres_off, Nat.le_refl _, by simp⟩, hM.keep (ks := [(0, 999)]) (by repeat (first | exact kl_rest (by assumption) rfl | (apply kl_in; focus rfl))) _ ⟨rfl, trivial⟩⟩
    · skip
      refine T_skip_go (fun _ _ h => h) ?_
      refine T_seq ?_
      refine T_region ?_
      refine S_ 26 rfl rfl rfl _ (y_move rfl rfl) ?_
      refine S_ 27 rfl rfl rfl _ (y_move rfl rfl) ?_
      refine S_ 28 rfl rfl rfl _ (y_nilCheck rfl rfl) ?_
      refine S_ 29 rfl rfl rfl _ (y_fieldAddr rfl rfl fa118_0) ?_
      refine S_ 30 rfl rfl rfl _ (y_load 901 rfl rfl rfl rfl Tryd.underlying9 rfl) ?_
      refine S_ 31 rfl rfl rfl _ (y_move rfl rfl) ?_
      refine S_ 32 rfl rfl rfl _ (y_strFrom rfl rfl rfl Tryd.underlying9 (fun _ => by omega)) ?_
      refine S_ 33 rfl rfl rfl _ (y_nilCheck rfl rfl) ?_
      refine S_ 34 rfl rfl rfl _ (y_fieldAddr rfl rfl fa118_0) ?_
      refine S_store 901 rfl rfl rfl rfl rfl rfl sz9 rfl rfl ?_
      refine S_go (fun _ _ h => h) ?_
      refine T_seq ?_
      refine T_region ?_
      refine S_ 35 rfl rfl rfl _ (y_move rfl rfl) ?_
      refine S_ 2 rfl rfl rfl _ (y_assign rfl rfl) ?_
      refine S_go (fun _ _ h => h) ?_
      refine T_ret (fun a w hF hM => hRb a w (post1 rfl rfl (fun w hM => ?_) a w hF hM))
      exact ⟨(n, s.drop k, ok), rfl, ⟨nm_good hr, by simp, hb.1⟩, hM.keep (ks := [(0, 999)]) (by repeat (first | exact kl_rest (by assumption) rfl | (apply kl_in; focus rfl))) _ ⟨rfl, trivial⟩⟩
theorem tkSgn_any {w0 : World} {K : HL} (hK : FromK K) (b : Nat) (s : List UInt8) (ok : Bool) (w : World) (hM0 : Mem w0 ([(901, tkI b s ok)] ++ K) w) :
    Calls Tryd.prog 72 #[selfP b] w fun e w' => ∃ z : Int × List UInt8 × Bool, e = .returned (.int .i64 z.1) ∧ (PRes sg s ok z.1 z.2.1 z.2.2 ∧ z.2.1.length ≤ s.length) ∧ Mem w0 ([(901, tkI b z.2.1 z.2.2)] ++ K) w' := by
  refine enterM_args (args := [selfP b]) (F := _) hM0 Tryd.func72 rfl Tryd.ntmps72 rfl rfl ?_
  intro Rb hRb hRn
  refine T_seq ?_
  refine T_region ?_
  refine S_ 2 rfl rfl rfl _ (y_assign rfl rfl) ?_
  refine S_go (fun _ _ h => h) ?_
  refine T_seq ?_
  refine T_region ?_
  refine S_ 4 rfl rfl rfl _ (y_move rfl rfl) ?_
  refine S_callM 5 [(901, 901)] (X := Nat × List UInt8 × Bool) rfl rfl rfl rfl rfl rfl rfl cf71 rfl (fun z => .int .i64 (z.1 : Int)) (fun z => PRes nm (s) (ok) z.1 z.2.1 z.2.2 ∧ z.2.1.length ≤ (s).length ∧ z.1 ≤ 281474976710656) (fun z => [(901, tkI b z.2.1 z.2.2)]) (fun _ => rfl) (fun _ => rfl) (fun K1 hK1 w hM => tkNum_any hK1 b (s) (ok) w hM) ?_
  rintro ⟨n, s1, ok1⟩ h
  try dsimp only at h
  refine S_ 3 rfl rfl rfl _ (y_assign rfl rfl) ?_
  refine S_go (fun _ _ h => h) ?_
  refine T_seq ?_
  refine T_seq ?_
  refine T_region ?_
  refine S_ 6 rfl rfl rfl _ (y_move rfl rfl) ?_
  refine S_ 7 rfl rfl rfl _ (y_bin rfl rfl rfl (fun hg => b_rem (by omega) (by omega) (by omega))) ?_
  refine S_ 8 rfl rfl rfl _ (y_bin rfl rfl rfl (fun _ => b_eql)) ?_
  refine S_go (fun _ _ h => h) ?_
  refine T_cond rfl (fun h8 => ?_) (fun h8 => ?_)
  · try simp only [decide_eq_true_eq, decide_eq_false_iff_not, Bool.or_eq_true, Bool.or_eq_false_iff, Bool.and_eq_true, Bool.and_eq_false_iff, Bool.not_eq_true', Bool.not_eq_false', Bool.not_eq_true, Bool.not_eq_false, Bool.not_true, Bool.not_false, Int.not_lt, Int.not_le, not_or, not_and, Classical.not_not] at h8
    refine T_seq ?_
    refine T_region ?_
    refine S_ 9 rfl rfl rfl _ (y_move rfl rfl) ?_
    refine S_ 10 rfl rfl rfl _ (y_bin rfl rfl rfl (fun hg => b_add (by omega))) ?_
    refine S_ 11 rfl rfl rfl _ (y_neg (-((n : Int) + 1)) rfl rfl (fun hg => by rw [IntWalk.i64_in _ (by omega)]; omega)) ?_
    refine S_ 12 rfl rfl rfl _ (y_bin rfl rfl rfl (fun hg => b_quot (by decide))) ?_
    refine S_ 2 rfl rfl rfl _ (y_assign rfl rfl) ?_
    refine S_go (fun _ _ h => h) ?_
    refine T_ret (fun a w hF hM => hRb a w (post1 rfl rfl (fun w hM => ?_) a w hF hM))
    have e : sgn n = IntKind.i64.wrap ((-((n : Int) + 1)).tdiv 2) := if_pos (by omega)
    exact ⟨(sgn n, s1, ok1), by rw [e], ⟨h.1.map, h.2.1⟩, hM.keep (ks := [(0, 999)]) (by repeat (first | exact kl_rest (by assumption) rfl | (apply kl_in; focus rfl))) _ ⟨rfl, trivial⟩⟩
  · try simp only [decide_eq_true_eq, decide_eq_false_iff_not, Bool.or_eq_true, Bool.or_eq_false_iff, Bool.and_eq_true, Bool.and_eq_false_iff, Bool.not_eq_true', Bool.not_eq_false', Bool.not_eq_true, Bool.not_eq_false, Bool.not_true, Bool.not_false, Int.not_lt, Int.not_le, not_or, not_and, Classical.not_not] at h8
    refine T_skip_go (fun _ _ h => h) ?_
    refine T_seq ?_
    refine T_region ?_
    refine S_ 13 rfl rfl rfl _ (y_move rfl rfl) ?_
    refine S_ 14 rfl rfl rfl _ (y_bin rfl rfl rfl (fun hg => b_quo (by omega) (by omega) (by omega))) ?_
    refine S_ 2 rfl rfl rfl _ (y_assign rfl rfl) ?_
    refine S_go (fun _ _ h => h) ?_
    refine T_ret (fun a w hF hM => hRb a w (post1 rfl rfl (fun w hM => ?_) a w hF hM))
    have e : sgn n = (n : Int) / 2 := if_neg (by omega)
    exact ⟨(sgn n, s1, ok1), by rw [e], ⟨h.1.map, h.2.1⟩, hM.keep (ks := [(0, 999)]) (by repeat (first | exact kl_rest (by assumption) rfl | (apply kl_in; focus rfl))) _ ⟨rfl, trivial⟩⟩
end Go.Proofs.YtofolhnecfkjkaaDoor
