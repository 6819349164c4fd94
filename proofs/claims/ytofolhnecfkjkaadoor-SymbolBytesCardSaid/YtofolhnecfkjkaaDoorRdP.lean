/- symbol.readTable and its closures. Conditions: those of each theorem. -/
import Derived.Test.YtofolhnecfkjkaaDoorRd
import Derived.Test.YtofolhnecfkjkaaDoorBldC
import Derived.Test.YtofolhnecfkjkaaDoorStrs
namespace Go.Proofs.YtofolhnecfkjkaaDoor
set_option linter.unusedSimpArgs false
set_option linter.unusedVariables false
set_option maxRecDepth 20000
open Go.RowKit Go.Eng
/-- where the variables lie that readTable's closures have caught -/
structure Ad where
  s : Nat
  o : Nat
  t : Nat
  n : Nat
  g : Nat
  w : Nat
  T : Nat
  l : Nat
  r : Nat
abbrev Ad.iS (d : Ad) (s : List UInt8) : It := .blk d.s (IsBox [str s] 9)
abbrev Ad.iO (d : Ad) (ok : Bool) : It := .blk d.o (IsBox [.bool ok] 4)
abbrev Ad.fT (d : Ad) : Value := .func (.func 101) #[] #[selfP d.s, selfP d.o]
abbrev Ad.iT (d : Ad) : It := .blk d.t (IsBox [d.fT] 107)
abbrev Ad.fN (d : Ad) : Value := .func (.func 102) #[] #[selfP d.s, selfP d.o, selfP d.t]
abbrev Ad.iN (d : Ad) : It := .blk d.n (IsBox [d.fN] 113)
abbrev Ad.fG (d : Ad) : Value := .func (.func 104) #[] #[selfP d.n]
abbrev Ad.iG (d : Ad) : It := .blk d.g (IsBox [d.fG] 113)
abbrev Ad.fW (d : Ad) : Value := .func (.func 105) #[] #[selfP d.t, selfP d.n]
abbrev Ad.iW (d : Ad) : It := .blk d.w (IsBox [d.fW] 111)
abbrev Ad.iTab (d : Ad) (id : List UInt8) (size : Int) (vf vu vr vc : Value) : It := .blk d.T (IsBox [str id, .int .i64 size, vf, vu, vr, vc] 27)
abbrev Ad.iL (d : Ad) (n : Int) : It := .blk d.l (IsBox [.int .i64 n] 3)
abbrev Ad.iR (d : Ad) (r : SRow) : It := .blk d.r (IsBox (SRow.enc r) 98)
abbrev rF (A : Option Addr) (c : Nat) (l : List (List UInt8)) : It := .own 9 1 (.slice A l.length c) l.length (l.flatMap strEnc)
abbrev rU (A : Option Addr) (c : Nat) (l : List SFunc) : It := .own 80 3 (.slice A l.length c) l.length (l.flatMap SFunc.enc)
abbrev rR (A : Option Addr) (c : Nat) (l : List SRow) : It := .own 98 3 (.slice A l.length c) l.length (l.flatMap SRow.enc)
abbrev rC (A : Option Addr) (c : Nat) (l : List SCall) : It := .own 110 5 (.slice A l.length c) l.length (l.flatMap SCall.enc)
theorem take_any {w0 : World} {K : HL} (hK : FromK K) (d : Ad) (n : Nat) (s : List UInt8) (ok : Bool) (w : World) (hM0 : Mem w0 ([(901, d.iS s), (902, d.iO ok)] ++ K) w) :
    Calls Tryd.prog 101 #[.int .i64 (n : Int), selfP d.s, selfP d.o] w fun e w' => ∃ z : List UInt8 × List UInt8 × Bool, e = .returned (str z.1) ∧ (PRes (tk n) s ok z.1 z.2.1 z.2.2 ∧ z.1.length ≤ s.length ∧ z.2.1.length ≤ s.length) ∧
      Mem w0 ([(901, d.iS z.2.1), (902, d.iO z.2.2)] ++ K) w' := by
  refine enterM_args (args := [.int .i64 (n : Int), selfP d.s, selfP d.o]) (F := _) hM0 Tryd.func101 rfl Tryd.ntmps101 rfl rfl ?_
  intro Rb hRb hRn
  refine T_seq ?_
  refine T_region ?_
  refine S_ 4 rfl rfl rfl _ (y_assign rfl rfl) ?_
  refine S_go (fun _ _ h => h) ?_
  refine T_seq ?_
  refine T_seq ?_
  refine T_region ?_
  refine S_ 6 rfl rfl rfl _ (y_move rfl rfl) ?_
  refine S_ 7 rfl rfl rfl _ (y_load 901 rfl rfl rfl rfl Tryd.underlying9 rfl) ?_
  refine S_ 8 rfl rfl rfl _ (y_len_str rfl rfl Tryd.underlying9) ?_
  refine S_ 9 rfl rfl rfl _ (y_bin rfl rfl rfl (fun _ => b_gtr)) ?_
  refine S_go (fun _ _ h => h) ?_
  refine T_cond rfl (fun h9 => ?_) (fun h9 => ?_)
  · try simp only [decide_eq_true_eq, decide_eq_false_iff_not, Bool.or_eq_true, Bool.or_eq_false_iff, Bool.and_eq_true, Bool.and_eq_false_iff, Bool.not_eq_true', Bool.not_eq_false', Bool.not_eq_true, Bool.not_eq_false, Bool.not_true, Bool.not_false, Int.not_lt, Int.not_le, not_or, not_and, Classical.not_not] at h9
    refine T_seq ?_
    refine T_region ?_
    refine S_store 902 rfl rfl rfl rfl rfl rfl sz4 rfl rfl ?_
    refine S_go (fun _ _ h => h) ?_
    refine T_region ?_
    refine S_ 10 rfl rfl rfl _ (y_load 901 rfl rfl rfl rfl Tryd.underlying9 rfl) ?_
    refine S_ 11 rfl rfl rfl _ (y_len_str rfl rfl Tryd.underlying9) ?_
    refine S_ 0 rfl rfl rfl _ (y_assign rfl rfl) ?_
    refine S_go (fun _ _ h => h) ?_
    refine T_seq ?_
    refine T_region ?_
    refine S_ 12 rfl rfl rfl _ (y_load 901 rfl rfl rfl rfl Tryd.underlying9 rfl) ?_
    refine S_ 13 rfl rfl rfl _ (y_move rfl rfl) ?_
    refine S_ 14 rfl rfl rfl _ (y_strTo rfl rfl rfl Tryd.underlying9 (fun _ => by omega)) ?_
    refine S_ 5 rfl rfl rfl _ (y_assign rfl rfl) ?_
    refine S_go (fun _ _ h => h) ?_
    refine T_seq ?_
    refine T_region ?_
    refine S_ 15 rfl rfl rfl _ (y_load 901 rfl rfl rfl rfl Tryd.underlying9 rfl) ?_
    refine S_ 16 rfl rfl rfl _ (y_move rfl rfl) ?_
    refine S_ 17 rfl rfl rfl _ (y_strFrom rfl rfl rfl Tryd.underlying9 (fun _ => by omega)) ?_
    refine S_store 901 rfl rfl rfl rfl rfl rfl sz9 rfl rfl ?_
    refine S_go (fun _ _ h => h) ?_
    refine T_seq ?_
    refine T_region ?_
    refine S_ 18 rfl rfl rfl _ (y_move rfl rfl) ?_
    refine S_ 4 rfl rfl rfl _ (y_assign rfl rfl) ?_
    refine S_go (fun _ _ h => h) ?_
    refine T_ret (fun a w hF hM => hRb a w (post1 rfl rfl (fun w hM => ?_) a w hF hM))
    exact ⟨(_, _, false), rfl, ⟨tk_bad (by omega), by simp, by simp⟩, hM.keep (ks := [(0, 999)]) (by repeat (first | exact kl_rest (by assumption) rfl | (apply kl_in; focus rfl))) _ ⟨rfl, rfl, trivial⟩⟩
  · try simp only [decide_eq_true_eq, decide_eq_false_iff_not, Bool.or_eq_true, Bool.or_eq_false_iff, Bool.and_eq_true, Bool.and_eq_false_iff, Bool.not_eq_true', Bool.not_eq_false', Bool.not_eq_true, Bool.not_eq_false, Bool.not_true, Bool.not_false, Int.not_lt, Int.not_le, not_or, not_and, Classical.not_not] at h9
    refine T_skip_go (fun _ _ h => h) ?_
    refine T_seq ?_
    refine T_region ?_
    refine S_ 12 rfl rfl rfl _ (y_load 901 rfl rfl rfl rfl Tryd.underlying9 rfl) ?_
    refine S_ 13 rfl rfl rfl _ (y_move rfl rfl) ?_
    refine S_ 14 rfl rfl rfl _ (y_strTo rfl rfl rfl Tryd.underlying9 (fun _ => by omega)) ?_
    refine S_ 5 rfl rfl rfl _ (y_assign rfl rfl) ?_
    refine S_go (fun _ _ h => h) ?_
    refine T_seq ?_
    refine T_region ?_
    refine S_ 15 rfl rfl rfl _ (y_load 901 rfl rfl rfl rfl Tryd.underlying9 rfl) ?_
    refine S_ 16 rfl rfl rfl _ (y_move rfl rfl) ?_
    refine S_ 17 rfl rfl rfl _ (y_strFrom rfl rfl rfl Tryd.underlying9 (fun _ => by omega)) ?_
    refine S_store 901 rfl rfl rfl rfl rfl rfl sz9 rfl rfl ?_
    refine S_go (fun _ _ h => h) ?_
    refine T_seq ?_
    refine T_region ?_
    refine S_ 18 rfl rfl rfl _ (y_move rfl rfl) ?_
    refine S_ 4 rfl rfl rfl _ (y_assign rfl rfl) ?_
    refine S_go (fun _ _ h => h) ?_
    refine T_ret (fun a w hF hM => hRb a w (post1 rfl rfl (fun w hM => ?_) a w hF hM))
    exact ⟨(s.take n, s.drop n, ok), rfl, ⟨tk_res (by omega), by simp; omega, by simp⟩, hM.keep (ks := [(0, 999)]) (by repeat (first | exact kl_rest (by assumption) rfl | (apply kl_in; focus rfl))) _ ⟨rfl, rfl, trivial⟩⟩
theorem num_any {w0 : World} {K : HL} (hK : FromK K) (d : Ad) (s : List UInt8) (ok : Bool) (w : World) (hM0 : Mem w0 ([(901, d.iS s), (902, d.iO ok), (903, d.iT)] ++ K) w) :
    Calls Tryd.prog 102 #[selfP d.s, selfP d.o, selfP d.t] w fun e w' => ∃ z : Nat × List UInt8 × Bool, e = .returned (.int .i64 (z.1 : Int)) ∧ (PRes nm s ok z.1 z.2.1 z.2.2 ∧ z.2.1.length ≤ s.length ∧ z.1 ≤ 281474976710656) ∧
      Mem w0 ([(901, d.iS z.2.1), (902, d.iO z.2.2), (903, d.iT)] ++ K) w' := by
  cases hr : rd 8 s 0 0 with
  | none =>
    refine enterM_args (args := [selfP d.s, selfP d.o, selfP d.t]) (F := _) hM0 Tryd.func102 rfl Tryd.ntmps102 rfl rfl ?_
    intro Rb hRb hRn
    refine T_seq ?_
    refine T_region ?_
    refine S_ 3 rfl rfl rfl _ (y_assign rfl rfl) ?_
    refine S_go (fun _ _ h => h) ?_
    refine T_seq ?_
    refine T_region ?_
    refine S_ 8 rfl rfl rfl _ (y_load 901 rfl rfl rfl rfl Tryd.underlying9 rfl) ?_
    refine S_ 9 rfl rfl rfl _ (y_as (v' := .tuple #[.int .i64 0, .int .i64 0, .int .i64 8]) (by exact rdV_none hr) (y_call rfl rfl rfl cf103 (fun _ w _ => ReadNumber_any _ w))) ?_
    refine S_ 7 rfl rfl rfl _ (y_move rfl rfl) ?_
    refine S_ 10 rfl rfl rfl _ (y_extract rfl rfl rfl) ?_
    refine S_ 11 rfl rfl rfl _ (y_extract rfl rfl rfl) ?_
    refine S_ 12 rfl rfl rfl _ (y_extract rfl rfl rfl) ?_
    refine S_ 4 rfl rfl rfl _ (y_assign rfl rfl) ?_
    refine S_ 5 rfl rfl rfl _ (y_assign rfl rfl) ?_
    refine S_ 6 rfl rfl rfl _ (y_assign rfl rfl) ?_
    refine S_go (fun _ _ h => h) ?_
    refine T_seq ?_
    refine T_seq ?_
    refine T_region ?_
    refine S_ 13 rfl rfl rfl _ (y_move rfl rfl) ?_
    refine S_ 14 rfl rfl rfl _ (y_bin rfl rfl rfl (fun _ => b_neq)) ?_
    refine S_go (fun _ _ h => h) ?_
    refine T_cond rfl (fun h14 => ?_) (fun h14 => ?_)
    · try simp only [decide_eq_true_eq, decide_eq_false_iff_not, Bool.or_eq_true, Bool.or_eq_false_iff, Bool.and_eq_true, Bool.and_eq_false_iff, Bool.not_eq_true', Bool.not_eq_false', Bool.not_eq_true, Bool.not_eq_false, Bool.not_true, Bool.not_false, Int.not_lt, Int.not_le, not_or, not_and, Classical.not_not] at h14
      refine T_seq ?_
      refine T_region ?_
      refine S_store 902 rfl rfl rfl rfl rfl rfl sz4 rfl rfl ?_
      refine S_go (fun _ _ h => h) ?_
      refine T_seq ?_
      refine T_region ?_
      refine S_ 3 rfl rfl rfl _ (y_assign rfl rfl) ?_
      refine S_go (fun _ _ h => h) ?_
      refine T_ret (fun a w hF hM => hRb a w (post1 rfl rfl (fun w hM => ?_) a w hF hM))
      exact ⟨(0, s, false), rfl, ⟨nm_bad hr, Nat.le_refl _, by simp⟩, hM.keep (ks := [(0, 999)]) (by repeat (first | exact kl_rest (by assumption) rfl | (apply kl_in; focus rfl))) _ ⟨rfl, rfl, rfl, trivial⟩⟩
    · try simp only [decide_eq_true_eq, decide_eq_false_iff_not, Bool.or_eq_true, Bool.or_eq_false_iff, Bool.and_eq_true, Bool.and_eq_false_iff, Bool.not_eq_true', Bool.not_eq_false', Bool.not_eq_true, Bool.not_eq_false, Bool.not_true, Bool.not_false, Int.not_lt, Int.not_le, not_or, not_and, Classical.not_not] at h14
      simp at h14
  | some p =>
    obtain ⟨n, k⟩ := p
    have hb := rd_bounds s 0 0 n k hr
    refine enterM_args (args := [selfP d.s, selfP d.o, selfP d.t]) (F := _) hM0 Tryd.func102 rfl Tryd.ntmps102 rfl rfl ?_
    intro Rb hRb hRn
    refine T_seq ?_
    refine T_region ?_
    refine S_ 3 rfl rfl rfl _ (y_assign rfl rfl) ?_
    refine S_go (fun _ _ h => h) ?_
    refine T_seq ?_
    refine T_region ?_
    refine S_ 8 rfl rfl rfl _ (y_load 901 rfl rfl rfl rfl Tryd.underlying9 rfl) ?_
    refine S_ 9 rfl rfl rfl _ (y_as (v' := .tuple #[.int .i64 n, .int .i64 k, .int .i64 0]) (by exact rdV_some hr) (y_call rfl rfl rfl cf103 (fun _ w _ => ReadNumber_any _ w))) ?_
    refine S_ 7 rfl rfl rfl _ (y_move rfl rfl) ?_
    refine S_ 10 rfl rfl rfl _ (y_extract rfl rfl rfl) ?_
    refine S_ 11 rfl rfl rfl _ (y_extract rfl rfl rfl) ?_
    refine S_ 12 rfl rfl rfl _ (y_extract rfl rfl rfl) ?_
    refine S_ 4 rfl rfl rfl _ (y_assign rfl rfl) ?_
    refine S_ 5 rfl rfl rfl _ (y_assign rfl rfl) ?_
    refine S_ 6 rfl rfl rfl _ (y_assign rfl rfl) ?_
    refine S_go (fun _ _ h => h) ?_
    refine T_seq ?_
    refine T_seq ?_
    refine T_region ?_
    refine S_ 13 rfl rfl rfl _ (y_move rfl rfl) ?_
    refine S_ 14 rfl rfl rfl _ (y_bin rfl rfl rfl (fun _ => b_neq)) ?_
    refine S_go (fun _ _ h => h) ?_
    refine T_cond rfl (fun h14 => ?_) (fun h14 => ?_)
    · try simp only [decide_eq_true_eq, decide_eq_false_iff_not, Bool.or_eq_true, Bool.or_eq_false_iff, Bool.and_eq_true, Bool.and_eq_false_iff, Bool.not_eq_true', Bool.not_eq_false', Bool.not_eq_true, Bool.not_eq_false, Bool.not_true, Bool.not_false, Int.not_lt, Int.not_le, not_or, not_and, Classical.not_not] at h14
      simp at h14
    · try simp only [decide_eq_true_eq, decide_eq_false_iff_not, Bool.or_eq_true, Bool.or_eq_false_iff, Bool.and_eq_true, Bool.and_eq_false_iff, Bool.not_eq_true', Bool.not_eq_false', Bool.not_eq_true, Bool.not_eq_false, Bool.not_true, Bool.not_false, Int.not_lt, Int.not_le, not_or, not_and, Classical.not_not] at h14
      refine T_skip_go (fun _ _ h => h) ?_
      refine T_seq ?_
      refine T_region ?_
      refine S_ 15 rfl rfl rfl _ (y_load 903 rfl rfl rfl rfl Tryd.underlying107 rfl) ?_
      refine S_ 16 rfl rfl rfl _ (y_move rfl rfl) ?_
      refine S_callM 17 [(901, 901), (902, 902)] (X := List UInt8 × List UInt8 × Bool) rfl rfl rfl rfl rfl rfl rfl cf101 rfl (fun z => str z.1) (fun z => PRes (tk (k)) (s) (ok) z.1 z.2.1 z.2.2 ∧ z.1.length ≤ (s).length ∧ z.2.1.length ≤ (s).length) (fun z => [(901, Ad.iS (d) z.2.1), (902, Ad.iO (d) z.2.2)]) (fun _ => rfl) (fun _ => rfl) (fun K1 hK1 w hM => take_any hK1 (d) (k) (s) (ok) w hM) ?_
      rintro ⟨x, s1, ok1⟩ h
      try dsimp only at h
      refine S_go (fun _ _ h => h) ?_
      refine T_seq ?_
      refine T_region ?_
      refine S_ 18 rfl rfl rfl _ (y_move rfl rfl) ?_
      refine S_ 3 rfl rfl rfl _ (y_assign rfl rfl) ?_
      refine S_go (fun _ _ h => h) ?_
      refine T_ret (fun a w hF hM => hRb a w (post1 rfl rfl (fun w hM => ?_) a w hF hM))
      exact ⟨(n, s1, ok1), rfl, ⟨nm_res hr h.1, h.2.2, hb.1⟩, hM.keep (ks := [(0, 999)]) (by repeat (first | exact kl_rest (by assumption) rfl | (apply kl_in; focus rfl))) _ ⟨rfl, rfl, rfl, trivial⟩⟩
theorem sgn_any {w0 : World} {K : HL} (hK : FromK K) (d : Ad) (s : List UInt8) (ok : Bool) (w : World) (hM0 : Mem w0 ([(901, d.iS s), (902, d.iO ok), (903, d.iT), (904, d.iN)] ++ K) w) :
    Calls Tryd.prog 104 #[selfP d.n] w fun e w' => ∃ z : Int × List UInt8 × Bool, e = .returned (.int .i64 z.1) ∧ (PRes sg s ok z.1 z.2.1 z.2.2 ∧ z.2.1.length ≤ s.length) ∧
      Mem w0 ([(901, d.iS z.2.1), (902, d.iO z.2.2), (903, d.iT), (904, d.iN)] ++ K) w' := by
  refine enterM_args (args := [selfP d.n]) (F := _) hM0 Tryd.func104 rfl Tryd.ntmps104 rfl rfl ?_
  intro Rb hRb hRn
  refine T_seq ?_
  refine T_region ?_
  refine S_ 1 rfl rfl rfl _ (y_assign rfl rfl) ?_
  refine S_go (fun _ _ h => h) ?_
  refine T_seq ?_
  refine T_region ?_
  refine S_ 3 rfl rfl rfl _ (y_load 904 rfl rfl rfl rfl Tryd.underlying113 rfl) ?_
  refine S_callM 4 [(901, 901), (902, 902), (903, 903)] (X := Nat × List UInt8 × Bool) rfl rfl rfl rfl rfl rfl rfl cf102 rfl (fun z => .int .i64 (z.1 : Int)) (fun z => PRes nm (s) (ok) z.1 z.2.1 z.2.2 ∧ z.2.1.length ≤ (s).length ∧ z.1 ≤ 281474976710656) (fun z => [(901, Ad.iS (d) z.2.1), (902, Ad.iO (d) z.2.2), (903, Ad.iT (d))]) (fun _ => rfl) (fun _ => rfl) (fun K1 hK1 w hM => num_any hK1 (d) (s) (ok) w hM) ?_
  rintro ⟨n, s1, ok1⟩ h
  try dsimp only at h
  refine S_ 2 rfl rfl rfl _ (y_assign rfl rfl) ?_
  refine S_go (fun _ _ h => h) ?_
  refine T_seq ?_
  refine T_seq ?_
  refine T_region ?_
  refine S_ 5 rfl rfl rfl _ (y_move rfl rfl) ?_
  refine S_ 6 rfl rfl rfl _ (y_bin rfl rfl rfl (fun hg => b_rem (by omega) (by omega) (by omega))) ?_
  refine S_ 7 rfl rfl rfl _ (y_bin rfl rfl rfl (fun _ => b_eql)) ?_
  refine S_go (fun _ _ h => h) ?_
  refine T_cond rfl (fun h7 => ?_) (fun h7 => ?_)
  · try simp only [decide_eq_true_eq, decide_eq_false_iff_not, Bool.or_eq_true, Bool.or_eq_false_iff, Bool.and_eq_true, Bool.and_eq_false_iff, Bool.not_eq_true', Bool.not_eq_false', Bool.not_eq_true, Bool.not_eq_false, Bool.not_true, Bool.not_false, Int.not_lt, Int.not_le, not_or, not_and, Classical.not_not] at h7
    refine T_seq ?_
    refine T_region ?_
    refine S_ 8 rfl rfl rfl _ (y_move rfl rfl) ?_
    refine S_ 9 rfl rfl rfl _ (y_bin rfl rfl rfl (fun hg => b_add (by omega))) ?_
    refine S_ 10 rfl rfl rfl _ (y_neg (-((n : Int) + 1)) rfl rfl (fun hg => by rw [IntWalk.i64_in _ (by omega)]; omega)) ?_
    refine S_ 11 rfl rfl rfl _ (y_bin rfl rfl rfl (fun hg => b_quot (by decide))) ?_
    refine S_ 1 rfl rfl rfl _ (y_assign rfl rfl) ?_
    refine S_go (fun _ _ h => h) ?_
    refine T_ret (fun a w hF hM => hRb a w (post1 rfl rfl (fun w hM => ?_) a w hF hM))
    have e : sgn n = IntKind.i64.wrap ((-((n : Int) + 1)).tdiv 2) := if_pos (by omega)
    exact ⟨(sgn n, s1, ok1), by rw [e], ⟨h.1.map, h.2.1⟩, hM.keep (ks := [(0, 999)]) (by repeat (first | exact kl_rest (by assumption) rfl | (apply kl_in; focus rfl))) _ ⟨rfl, rfl, rfl, rfl, trivial⟩⟩
  · try simp only [decide_eq_true_eq, decide_eq_false_iff_not, Bool.or_eq_true, Bool.or_eq_false_iff, Bool.and_eq_true, Bool.and_eq_false_iff, Bool.not_eq_true', Bool.not_eq_false', Bool.not_eq_true, Bool.not_eq_false, Bool.not_true, Bool.not_false, Int.not_lt, Int.not_le, not_or, not_and, Classical.not_not] at h7
    refine T_skip_go (fun _ _ h => h) ?_
    refine T_seq ?_
    refine T_region ?_
    refine S_ 12 rfl rfl rfl _ (y_move rfl rfl) ?_
    refine S_ 13 rfl rfl rfl _ (y_bin rfl rfl rfl (fun hg => b_quo (by omega) (by omega) (by omega))) ?_
    refine S_ 1 rfl rfl rfl _ (y_assign rfl rfl) ?_
    refine S_go (fun _ _ h => h) ?_
    refine T_ret (fun a w hF hM => hRb a w (post1 rfl rfl (fun w hM => ?_) a w hF hM))
    have e : sgn n = (n : Int) / 2 := if_neg (by omega)
    exact ⟨(sgn n, s1, ok1), by rw [e], ⟨h.1.map, h.2.1⟩, hM.keep (ks := [(0, 999)]) (by repeat (first | exact kl_rest (by assumption) rfl | (apply kl_in; focus rfl))) _ ⟨rfl, rfl, rfl, rfl, trivial⟩⟩
theorem wordc_any {w0 : World} {K : HL} (hK : FromK K) (d : Ad) (s : List UInt8) (ok : Bool) (w : World) (hM0 : Mem w0 ([(901, d.iS s), (902, d.iO ok), (903, d.iT), (904, d.iN)] ++ K) w) :
    Calls Tryd.prog 105 #[selfP d.t, selfP d.n] w fun e w' => ∃ z : List UInt8 × List UInt8 × Bool, e = .returned (str z.1) ∧ (PRes wd s ok z.1 z.2.1 z.2.2 ∧ z.1.length ≤ s.length ∧ z.2.1.length ≤ s.length) ∧
      Mem w0 ([(901, d.iS z.2.1), (902, d.iO z.2.2), (903, d.iT), (904, d.iN)] ++ K) w' := by
  refine enterM_args (args := [selfP d.t, selfP d.n]) (F := _) hM0 Tryd.func105 rfl Tryd.ntmps105 rfl rfl ?_
  intro Rb hRb hRn
  refine T_seq ?_
  refine T_region ?_
  refine S_ 2 rfl rfl rfl _ (y_assign rfl rfl) ?_
  refine S_go (fun _ _ h => h) ?_
  refine T_seq ?_
  refine T_perm [0, 1, 2, 3, 4] [true, true, false, false, true] [0, 0, 2, 7, 15] [(0, [903]), (1, [904])] (by kernel_rfl) (by kernel_rfl) (by kernel_rfl) rfl (by kernel_rfl) ?_
  refine Rf_ 0 3 rfl rfl rfl rfl rfl _ ⟨rfl, trivial⟩ (Y.z (y_load 903 rfl rfl rfl rfl Tryd.underlying107 rfl) rfl) ?_
  refine Rf_ 1 4 rfl rfl rfl rfl rfl _ ⟨rfl, trivial⟩ (Y.z (y_load 904 rfl rfl rfl rfl Tryd.underlying113 rfl) rfl) ?_
  refine R_chain 2 rfl rfl ?_
  refine S_callM 5 [(901, 901), (902, 902), (903, 903)] (X := Nat × List UInt8 × Bool) rfl rfl rfl rfl rfl rfl rfl cf102 rfl (fun z => .int .i64 (z.1 : Int)) (fun z => PRes nm (s) (ok) z.1 z.2.1 z.2.2 ∧ z.2.1.length ≤ (s).length ∧ z.1 ≤ 281474976710656) (fun z => [(901, Ad.iS (d) z.2.1), (902, Ad.iO (d) z.2.2), (903, Ad.iT (d))]) (fun _ => rfl) (fun _ => rfl) (fun K1 hK1 w hM => num_any hK1 (d) (s) (ok) w hM) ?_
  rintro ⟨n, s1, ok1⟩ h
  try dsimp only at h
  refine R_next ⟨.inr ⟨rfl, trivial⟩, .inl rfl, trivial⟩ ?_
  refine R_chain 3 rfl rfl ?_
  refine S_callM 6 [(901, 901), (902, 902)] (X := List UInt8 × List UInt8 × Bool) rfl rfl rfl rfl rfl rfl rfl cf101 rfl (fun z => str z.1) (fun z => PRes (tk (n)) (s1) (ok1) z.1 z.2.1 z.2.2 ∧ z.1.length ≤ (s1).length ∧ z.2.1.length ≤ (s1).length) (fun z => [(901, Ad.iS (d) z.2.1), (902, Ad.iO (d) z.2.2)]) (fun _ => rfl) (fun _ => rfl) (fun K1 hK1 w hM => take_any hK1 (d) (n) (s1) (ok1) w hM) ?_
  rintro ⟨x, s2, ok2⟩ h2
  try dsimp only at h2
  refine R_next ⟨.inl rfl, .inl rfl, trivial⟩ ?_
  refine Rf_ 4 2 rfl rfl rfl rfl rfl _ trivial (Y.z (y_assign rfl rfl) rfl) ?_
  refine R_go (fun _ _ h => h) ?_
  refine T_ret (fun a w hF hM => hRb a w (post1 rfl rfl (fun w hM => ?_) a w hF hM))
  exact ⟨(x, s2, ok2), rfl, ⟨h.1.bnd h2.1, Nat.le_trans h2.2.1 h.2.1, Nat.le_trans h2.2.2 h.2.1⟩, hM.keep (ks := [(0, 999)]) (by repeat (first | exact kl_rest (by assumption) rfl | (apply kl_in; focus rfl))) _ ⟨rfl, rfl, rfl, rfl, trivial⟩⟩
end Go.Proofs.YtofolhnecfkjkaaDoor
