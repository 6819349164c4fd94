/- slices.Equal of several kinds, and tables that are the same. Conditions: those of each theorem. -/
import Derived.Test.YtofolhnecfkjkaaDoorTabR
import Derived.Test.YtofolhnecfkjkaaDoorTabB
import Derived.Test.YtofolhnecfkjkaaDoorEqS
namespace Go.Proofs.YtofolhnecfkjkaaDoor
set_option linter.unusedSimpArgs false
set_option linter.unusedVariables false
set_option maxRecDepth 20000
open Go.RowKit Go.Eng
def sEq (a b : List UInt8) : Bool := decide (a = b)
def SFunc.eqB (a b : SFunc) : Bool := decide (a.name = b.name) && (decide (a.fr = b.fr) && decide (a.to = b.to))
def SRow.eqB (a b : SRow) : Bool := decide (a.pos = b.pos) && (decide (a.fi = b.fi) && decide (a.ln = b.ln))
def SCall.eqB (a b : SCall) : Bool := decide (a.name = b.name) && (decide (a.fr = b.fr) && (decide (a.to = b.to) && (decide (a.fi = b.fi) && decide (a.ln = b.ln))))
theorem sEq_iff (a b : List UInt8) : sEq a b = true ↔ a = b := by simp [sEq]
theorem SFunc.eqB_iff (a b : SFunc) : SFunc.eqB a b = true ↔ a = b := by cases a; cases b; simp [SFunc.eqB]
theorem SRow.eqB_iff (a b : SRow) : SRow.eqB a b = true ↔ a = b := by cases a; cases b; simp [SRow.eqB]
theorem SCall.eqB_iff (a b : SCall) : SCall.eqB a b = true ↔ a = b := by cases a; cases b; simp [SCall.eqB]
theorem EqualS_any (A B : Option Addr) (q c p d : Nat) (l m : List (List UInt8)) (w : World) (hl : SlT strEnc 1 w A q l) (hm : SlT strEnc 1 w B p m) (hq : q ≤ 4611686018427387904) (hp : p ≤ 4611686018427387904) :
    Calls Tryd.prog 80 #[.slice A q c, .slice B p d] w fun e w' => e = .returned (.bool (eqLB sEq l m)) ∧ Below w.heap.size w w' := by
  have hlen := hl.len
  have hmen := hm.len
  refine enter_args (args := [.slice A q c, .slice B p d]) (F := _) Tryd.func80 rfl Tryd.ntmps80 rfl rfl ?_
  intro Rb hRb hRn
  refine T_seq ?_
  refine T_region ?_
  refine S_ 4 rfl rfl rfl _ (y_assign rfl rfl) ?_
  refine S_go (fun _ _ h => h) ?_
  refine T_seq ?_
  refine T_seq ?_
  refine T_region ?_
  refine S_ 6 rfl rfl rfl _ (y_move rfl rfl) ?_
  refine S_ 7 rfl rfl rfl _ (y_len_slice rfl rfl Tryd.underlying22) ?_
  refine S_ 8 rfl rfl rfl _ (y_move rfl rfl) ?_
  refine S_ 9 rfl rfl rfl _ (y_len_slice rfl rfl Tryd.underlying22) ?_
  refine S_ 10 rfl rfl rfl _ (y_bin rfl rfl rfl (fun _ => b_neq)) ?_
  refine S_go (fun _ _ h => h) ?_
  refine T_cond rfl (fun h10 => ?_) (fun h10 => ?_)
  · try simp only [decide_eq_true_eq, decide_eq_false_iff_not, Bool.or_eq_true, Bool.or_eq_false_iff, Bool.and_eq_true, Bool.and_eq_false_iff, Bool.not_eq_true', Bool.not_eq_false', Bool.not_eq_true, Bool.not_eq_false, Bool.not_true, Bool.not_false, Int.not_lt, Int.not_le, not_or, not_and, Classical.not_not] at h10
    refine T_seq ?_
    refine T_region ?_
    refine S_ 4 rfl rfl rfl _ (y_assign rfl rfl) ?_
    refine S_go (fun _ _ h => h) ?_
    refine T_ret (fun a w hF hM => hRb a w (post1 rfl rfl (fun w hM => ?_) a w hF hM))
    exact ⟨by rw [eqLB_len l m (by omega)], hM.below⟩
  · try simp only [decide_eq_true_eq, decide_eq_false_iff_not, Bool.or_eq_true, Bool.or_eq_false_iff, Bool.and_eq_true, Bool.and_eq_false_iff, Bool.not_eq_true', Bool.not_eq_false', Bool.not_eq_true, Bool.not_eq_false, Bool.not_true, Bool.not_false, Int.not_lt, Int.not_le, not_or, not_and, Classical.not_not] at h10
    refine T_skip_go (fun _ _ h => h) ?_
    refine T_seq ?_
    refine T_seq ?_
    refine T_region ?_
    refine S_ 11 rfl rfl rfl _ (y_move rfl rfl) ?_
    refine S_ 12 rfl rfl rfl _ (y_len_slice rfl rfl Tryd.underlying22) ?_
    refine S_ 13 rfl rfl rfl _ (y_move rfl rfl) ?_
    refine S_go (fun _ _ h => h) ?_
    refine T_block ?_
    refine T_loopK1 (kf := [(4, 5), (13, 25)]) (kl := [(4, 5), (13, 25)]) (fun (i : Nat) => [(13, true, .int .i64 (i : Int))]) (fun (i : Nat) => []) (fun (i : Nat) => i ≤ q ∧ eqLB sEq l m = eqLB sEq (l.drop i) (m.drop i)) (fun (i : Nat) => q - i) 0 (by repeat (first | exact kf_nil | (apply kf_in; focus rfl) | (apply kf_out; focus rfl))) (by repeat (first | exact kl_nil | exact kl_rest (by assumption) rfl | (apply kl_in; focus rfl) | (apply kl_out; focus rfl))) ?_ ?_ ?_ ?_
    · exact ⟨by omega, rfl⟩
    · exact ⟨rfl, trivial⟩
    · exact trivial
    rintro i ⟨hp1, hp2⟩
    refine T_seq ?_
    refine T_region ?_
    refine S_ 14 rfl rfl rfl _ (y_bin rfl rfl rfl (fun _ => b_lss)) ?_
    refine S_go (fun _ _ h => h) ?_
    refine T_seq ?_
    refine T_cond rfl (fun h14 => ?_) (fun h14 => ?_)
    · try simp only [decide_eq_true_eq, decide_eq_false_iff_not, Bool.or_eq_true, Bool.or_eq_false_iff, Bool.and_eq_true, Bool.and_eq_false_iff, Bool.not_eq_true', Bool.not_eq_false', Bool.not_eq_true, Bool.not_eq_false, Bool.not_true, Bool.not_false, Int.not_lt, Int.not_le, not_or, not_and, Classical.not_not] at h14
      obtain ⟨a, hx1, hx2⟩ := hl.at (i := i) (by omega)
      obtain ⟨b, hy1, hy2⟩ := hm.at (i := i) (by omega)
      refine T_skip_go (fun _ _ h => h) ?_
      refine T_seq ?_
      refine T_block ?_
      refine T_seq ?_
      refine T_region ?_
      refine S_ 15 rfl rfl rfl _ (y_move rfl rfl) ?_
      refine S_ 5 rfl rfl rfl _ (y_assign rfl rfl) ?_
      refine S_go (fun _ _ h => h) ?_
      refine T_seq ?_
      refine T_draws (by kernel_rfl) (by kernel_rfl) ?_
      refine D_ 16 rfl rfl rfl _ (y_move rfl rfl) ?_
      refine D_ 17 rfl rfl rfl _ (y_move rfl rfl) ?_
      refine D_ 18 rfl rfl rfl _ (y_indexAddr rfl rfl rfl Tryd.underlying22 sz9 (fun hg => hl.isSome (by omega)) (fun _ => by omega)) ?_
      refine D_ 19 rfl rfl rfl _ (y_loadT1 (val := (fun l : List UInt8 => str l)) rfl rfl hl (fun _ => hx1) Tryd.underlying9 rfl) ?_
      refine D_ 20 rfl rfl rfl _ (y_move rfl rfl) ?_
      refine D_ 21 rfl rfl rfl _ (y_move rfl rfl) ?_
      refine D_ 22 rfl rfl rfl _ (y_indexAddr rfl rfl rfl Tryd.underlying22 sz9 (fun hg => hm.isSome (by omega)) (fun _ => by omega)) ?_
      refine D_ 23 rfl rfl rfl _ (y_loadT1 (val := (fun l : List UInt8 => str l)) rfl rfl hm (fun _ => hy1) Tryd.underlying9 rfl) ?_
      refine D_ 24 rfl rfl rfl _ (y_as (v' := .bool (!(sEq a b))) (by rw [show (decide (a = b)) = sEq a b from rfl]) (y_bin rfl rfl rfl (fun _ => b_neqs))) ?_
      refine D_go (fun _ _ h => h) ?_
      refine T_cond rfl (fun h24 => ?_) (fun h24 => ?_)
      · skip
        have h24e : sEq a b = false := by simpa using h24
        refine T_seq ?_
        refine T_region ?_
        refine S_ 4 rfl rfl rfl _ (y_assign rfl rfl) ?_
        refine S_go (fun _ _ h => h) ?_
        refine T_ret (fun a w hF hM => hRb a w (post1 rfl rfl (fun w hM => ?_) a w hF hM))
        exact ⟨by rw [hp2, hx2, hy2, eqLB, h24e, Bool.false_and], hM.below⟩
      · skip
        have h24e : sEq a b = true := by simpa using h24
        refine T_skip_go (fun _ _ h => h) ?_
        refine T_region ?_
        refine S_ 25 rfl rfl rfl _ (y_bin rfl rfl rfl (fun hg => b_add (by omega))) ?_
        refine S_ 13 rfl rfl rfl _ (y_move rfl rfl) ?_
        refine S_nil (nextK1 (kf := [(4, 5), (13, 25)]) (kl := [(4, 5), (13, 25)]) (i + 1) (by repeat (first | exact kf_nil | (apply kf_in; focus rfl) | (apply kf_out; focus rfl))) (by repeat (first | exact kl_nil | exact kl_rest (by assumption) rfl | (apply kl_in; focus rfl) | (apply kl_out; focus rfl))) ?_ ?_ ?_ ?_)
        · omega
        · exact ⟨by omega, by rw [hp2, hx2, hy2, eqLB, h24e, Bool.true_and]⟩
        · exact ⟨rfl, trivial⟩
        · exact trivial
    · try simp only [decide_eq_true_eq, decide_eq_false_iff_not, Bool.or_eq_true, Bool.or_eq_false_iff, Bool.and_eq_true, Bool.and_eq_false_iff, Bool.not_eq_true', Bool.not_eq_false', Bool.not_eq_true, Bool.not_eq_false, Bool.not_true, Bool.not_false, Int.not_lt, Int.not_le, not_or, not_and, Classical.not_not] at h14
      refine T_exit_go (fun _ _ h => h) ?_
      refine T_seq ?_
      refine T_region ?_
      refine S_ 4 rfl rfl rfl _ (y_assign rfl rfl) ?_
      refine S_go (fun _ _ h => h) ?_
      refine T_ret (fun a w hF hM => hRb a w (post1 rfl rfl (fun w hM => ?_) a w hF hM))
      exact ⟨by rw [hp2, hl.end (by omega), hm.end (by omega)]; rfl, hM.below⟩
theorem EqualF_any (A B : Option Addr) (q c p d : Nat) (l m : List (SFunc)) (w : World) (hl : SlT SFunc.enc 3 w A q l) (hm : SlT SFunc.enc 3 w B p m) (hq : q ≤ 4611686018427387904) (hp : p ≤ 4611686018427387904) :
    Calls Tryd.prog 112 #[.slice A q c, .slice B p d] w fun e w' => e = .returned (.bool (eqLB SFunc.eqB l m)) ∧ Below w.heap.size w w' := by
  have hlen := hl.len
  have hmen := hm.len
  refine enter_args (args := [.slice A q c, .slice B p d]) (F := _) Tryd.func112 rfl Tryd.ntmps112 rfl rfl ?_
  intro Rb hRb hRn
  refine T_seq ?_
  refine T_region ?_
  refine S_ 4 rfl rfl rfl _ (y_assign rfl rfl) ?_
  refine S_go (fun _ _ h => h) ?_
  refine T_seq ?_
  refine T_seq ?_
  refine T_region ?_
  refine S_ 6 rfl rfl rfl _ (y_move rfl rfl) ?_
  refine S_ 7 rfl rfl rfl _ (y_len_slice rfl rfl Tryd.underlying23) ?_
  refine S_ 8 rfl rfl rfl _ (y_move rfl rfl) ?_
  refine S_ 9 rfl rfl rfl _ (y_len_slice rfl rfl Tryd.underlying23) ?_
  refine S_ 10 rfl rfl rfl _ (y_bin rfl rfl rfl (fun _ => b_neq)) ?_
  refine S_go (fun _ _ h => h) ?_
  refine T_cond rfl (fun h10 => ?_) (fun h10 => ?_)
  · try simp only [decide_eq_true_eq, decide_eq_false_iff_not, Bool.or_eq_true, Bool.or_eq_false_iff, Bool.and_eq_true, Bool.and_eq_false_iff, Bool.not_eq_true', Bool.not_eq_false', Bool.not_eq_true, Bool.not_eq_false, Bool.not_true, Bool.not_false, Int.not_lt, Int.not_le, not_or, not_and, Classical.not_not] at h10
    refine T_seq ?_
    refine T_region ?_
    refine S_ 4 rfl rfl rfl _ (y_assign rfl rfl) ?_
    refine S_go (fun _ _ h => h) ?_
    refine T_ret (fun a w hF hM => hRb a w (post1 rfl rfl (fun w hM => ?_) a w hF hM))
    exact ⟨by rw [eqLB_len l m (by omega)], hM.below⟩
  · try simp only [decide_eq_true_eq, decide_eq_false_iff_not, Bool.or_eq_true, Bool.or_eq_false_iff, Bool.and_eq_true, Bool.and_eq_false_iff, Bool.not_eq_true', Bool.not_eq_false', Bool.not_eq_true, Bool.not_eq_false, Bool.not_true, Bool.not_false, Int.not_lt, Int.not_le, not_or, not_and, Classical.not_not] at h10
    refine T_skip_go (fun _ _ h => h) ?_
    refine T_seq ?_
    refine T_seq ?_
    refine T_region ?_
    refine S_ 11 rfl rfl rfl _ (y_move rfl rfl) ?_
    refine S_ 12 rfl rfl rfl _ (y_len_slice rfl rfl Tryd.underlying23) ?_
    refine S_ 13 rfl rfl rfl _ (y_move rfl rfl) ?_
    refine S_go (fun _ _ h => h) ?_
    refine T_block ?_
    refine T_loopK1 (kf := [(4, 5), (13, 25)]) (kl := [(4, 5), (13, 25)]) (fun (i : Nat) => [(13, true, .int .i64 (i : Int))]) (fun (i : Nat) => []) (fun (i : Nat) => i ≤ q ∧ eqLB SFunc.eqB l m = eqLB SFunc.eqB (l.drop i) (m.drop i)) (fun (i : Nat) => q - i) 0 (by repeat (first | exact kf_nil | (apply kf_in; focus rfl) | (apply kf_out; focus rfl))) (by repeat (first | exact kl_nil | exact kl_rest (by assumption) rfl | (apply kl_in; focus rfl) | (apply kl_out; focus rfl))) ?_ ?_ ?_ ?_
    · exact ⟨by omega, rfl⟩
    · exact ⟨rfl, trivial⟩
    · exact trivial
    rintro i ⟨hp1, hp2⟩
    refine T_seq ?_
    refine T_region ?_
    refine S_ 14 rfl rfl rfl _ (y_bin rfl rfl rfl (fun _ => b_lss)) ?_
    refine S_go (fun _ _ h => h) ?_
    refine T_seq ?_
    refine T_cond rfl (fun h14 => ?_) (fun h14 => ?_)
    · try simp only [decide_eq_true_eq, decide_eq_false_iff_not, Bool.or_eq_true, Bool.or_eq_false_iff, Bool.and_eq_true, Bool.and_eq_false_iff, Bool.not_eq_true', Bool.not_eq_false', Bool.not_eq_true, Bool.not_eq_false, Bool.not_true, Bool.not_false, Int.not_lt, Int.not_le, not_or, not_and, Classical.not_not] at h14
      obtain ⟨a, hx1, hx2⟩ := hl.at (i := i) (by omega)
      obtain ⟨b, hy1, hy2⟩ := hm.at (i := i) (by omega)
      refine T_skip_go (fun _ _ h => h) ?_
      refine T_seq ?_
      refine T_block ?_
      refine T_seq ?_
      refine T_region ?_
      refine S_ 15 rfl rfl rfl _ (y_move rfl rfl) ?_
      refine S_ 5 rfl rfl rfl _ (y_assign rfl rfl) ?_
      refine S_go (fun _ _ h => h) ?_
      refine T_seq ?_
      refine T_draws (by kernel_rfl) (by kernel_rfl) ?_
      refine D_ 16 rfl rfl rfl _ (y_move rfl rfl) ?_
      refine D_ 17 rfl rfl rfl _ (y_move rfl rfl) ?_
      refine D_ 18 rfl rfl rfl _ (y_indexAddr rfl rfl rfl Tryd.underlying23 sz80 (fun hg => hl.isSome (by omega)) (fun _ => by omega)) ?_
      refine D_ 19 rfl rfl rfl _ (y_loadT rfl rfl hl (fun _ => rfl) (fun _ => hx1) Tryd.underlying80 rfl sz80) ?_
      refine D_ 20 rfl rfl rfl _ (y_move rfl rfl) ?_
      refine D_ 21 rfl rfl rfl _ (y_move rfl rfl) ?_
      refine D_ 22 rfl rfl rfl _ (y_indexAddr rfl rfl rfl Tryd.underlying23 sz80 (fun hg => hm.isSome (by omega)) (fun _ => by omega)) ?_
      refine D_ 23 rfl rfl rfl _ (y_loadT rfl rfl hm (fun _ => rfl) (fun _ => hy1) Tryd.underlying80 rfl sz80) ?_
      refine D_ 24 rfl rfl rfl _ (y_as (v' := .bool (!(SFunc.eqB a b))) (by simp [SFunc.eqB, str]) (y_bin rfl rfl rfl (fun _ => b_neqA (rs := [_, _, _]) Tryd.underlying80 (by kernel_rfl) (by kernel_rfl) ⟨by decide, ⟨_, Tryd.underlying9, rfl, _, _, rfl, rfl, rfl⟩, by decide, ⟨_, Tryd.underlying3, rfl, _, _, rfl, rfl, rfl⟩, by decide, ⟨_, Tryd.underlying3, rfl, _, _, rfl, rfl, rfl⟩, trivial⟩))) ?_
      refine D_go (fun _ _ h => h) ?_
      refine T_cond rfl (fun h24 => ?_) (fun h24 => ?_)
      · skip
        have h24e : SFunc.eqB a b = false := by simpa using h24
        refine T_seq ?_
        refine T_region ?_
        refine S_ 4 rfl rfl rfl _ (y_assign rfl rfl) ?_
        refine S_go (fun _ _ h => h) ?_
        refine T_ret (fun a w hF hM => hRb a w (post1 rfl rfl (fun w hM => ?_) a w hF hM))
        exact ⟨by rw [hp2, hx2, hy2, eqLB, h24e, Bool.false_and], hM.below⟩
      · skip
        have h24e : SFunc.eqB a b = true := by simpa using h24
        refine T_skip_go (fun _ _ h => h) ?_
        refine T_region ?_
        refine S_ 25 rfl rfl rfl _ (y_bin rfl rfl rfl (fun hg => b_add (by omega))) ?_
        refine S_ 13 rfl rfl rfl _ (y_move rfl rfl) ?_
        refine S_nil (nextK1 (kf := [(4, 5), (13, 25)]) (kl := [(4, 5), (13, 25)]) (i + 1) (by repeat (first | exact kf_nil | (apply kf_in; focus rfl) | (apply kf_out; focus rfl))) (by repeat (first | exact kl_nil | exact kl_rest (by assumption) rfl | (apply kl_in; focus rfl) | (apply kl_out; focus rfl))) ?_ ?_ ?_ ?_)
        · omega
        · exact ⟨by omega, by rw [hp2, hx2, hy2, eqLB, h24e, Bool.true_and]⟩
        · exact ⟨rfl, trivial⟩
        · exact trivial
    · try simp only [decide_eq_true_eq, decide_eq_false_iff_not, Bool.or_eq_true, Bool.or_eq_false_iff, Bool.and_eq_true, Bool.and_eq_false_iff, Bool.not_eq_true', Bool.not_eq_false', Bool.not_eq_true, Bool.not_eq_false, Bool.not_true, Bool.not_false, Int.not_lt, Int.not_le, not_or, not_and, Classical.not_not] at h14
      refine T_exit_go (fun _ _ h => h) ?_
      refine T_seq ?_
      refine T_region ?_
      refine S_ 4 rfl rfl rfl _ (y_assign rfl rfl) ?_
      refine S_go (fun _ _ h => h) ?_
      refine T_ret (fun a w hF hM => hRb a w (post1 rfl rfl (fun w hM => ?_) a w hF hM))
      exact ⟨by rw [hp2, hl.end (by omega), hm.end (by omega)]; rfl, hM.below⟩
theorem EqualR_any (A B : Option Addr) (q c p d : Nat) (l m : List (SRow)) (w : World) (hl : SlT SRow.enc 3 w A q l) (hm : SlT SRow.enc 3 w B p m) (hq : q ≤ 4611686018427387904) (hp : p ≤ 4611686018427387904) :
    Calls Tryd.prog 113 #[.slice A q c, .slice B p d] w fun e w' => e = .returned (.bool (eqLB SRow.eqB l m)) ∧ Below w.heap.size w w' := by
  have hlen := hl.len
  have hmen := hm.len
  refine enter_args (args := [.slice A q c, .slice B p d]) (F := _) Tryd.func113 rfl Tryd.ntmps113 rfl rfl ?_
  intro Rb hRb hRn
  refine T_seq ?_
  refine T_region ?_
  refine S_ 4 rfl rfl rfl _ (y_assign rfl rfl) ?_
  refine S_go (fun _ _ h => h) ?_
  refine T_seq ?_
  refine T_seq ?_
  refine T_region ?_
  refine S_ 6 rfl rfl rfl _ (y_move rfl rfl) ?_
  refine S_ 7 rfl rfl rfl _ (y_len_slice rfl rfl Tryd.underlying24) ?_
  refine S_ 8 rfl rfl rfl _ (y_move rfl rfl) ?_
  refine S_ 9 rfl rfl rfl _ (y_len_slice rfl rfl Tryd.underlying24) ?_
  refine S_ 10 rfl rfl rfl _ (y_bin rfl rfl rfl (fun _ => b_neq)) ?_
  refine S_go (fun _ _ h => h) ?_
  refine T_cond rfl (fun h10 => ?_) (fun h10 => ?_)
  · try simp only [decide_eq_true_eq, decide_eq_false_iff_not, Bool.or_eq_true, Bool.or_eq_false_iff, Bool.and_eq_true, Bool.and_eq_false_iff, Bool.not_eq_true', Bool.not_eq_false', Bool.not_eq_true, Bool.not_eq_false, Bool.not_true, Bool.not_false, Int.not_lt, Int.not_le, not_or, not_and, Classical.not_not] at h10
    refine T_seq ?_
    refine T_region ?_
    refine S_ 4 rfl rfl rfl _ (y_assign rfl rfl) ?_
    refine S_go (fun _ _ h => h) ?_
    refine T_ret (fun a w hF hM => hRb a w (post1 rfl rfl (fun w hM => ?_) a w hF hM))
    exact ⟨by rw [eqLB_len l m (by omega)], hM.below⟩
  · try simp only [decide_eq_true_eq, decide_eq_false_iff_not, Bool.or_eq_true, Bool.or_eq_false_iff, Bool.and_eq_true, Bool.and_eq_false_iff, Bool.not_eq_true', Bool.not_eq_false', Bool.not_eq_true, Bool.not_eq_false, Bool.not_true, Bool.not_false, Int.not_lt, Int.not_le, not_or, not_and, Classical.not_not] at h10
    refine T_skip_go (fun _ _ h => h) ?_
    refine T_seq ?_
    refine T_seq ?_
    refine T_region ?_
    refine S_ 11 rfl rfl rfl _ (y_move rfl rfl) ?_
    refine S_ 12 rfl rfl rfl _ (y_len_slice rfl rfl Tryd.underlying24) ?_
    refine S_ 13 rfl rfl rfl _ (y_move rfl rfl) ?_
    refine S_go (fun _ _ h => h) ?_
    refine T_block ?_
    refine T_loopK1 (kf := [(4, 5), (13, 25)]) (kl := [(4, 5), (13, 25)]) (fun (i : Nat) => [(13, true, .int .i64 (i : Int))]) (fun (i : Nat) => []) (fun (i : Nat) => i ≤ q ∧ eqLB SRow.eqB l m = eqLB SRow.eqB (l.drop i) (m.drop i)) (fun (i : Nat) => q - i) 0 (by repeat (first | exact kf_nil | (apply kf_in; focus rfl) | (apply kf_out; focus rfl))) (by repeat (first | exact kl_nil | exact kl_rest (by assumption) rfl | (apply kl_in; focus rfl) | (apply kl_out; focus rfl))) ?_ ?_ ?_ ?_
    · exact ⟨by omega, rfl⟩
    · exact ⟨rfl, trivial⟩
    · exact trivial
    rintro i ⟨hp1, hp2⟩
    refine T_seq ?_
    refine T_region ?_
    refine S_ 14 rfl rfl rfl _ (y_bin rfl rfl rfl (fun _ => b_lss)) ?_
    refine S_go (fun _ _ h => h) ?_
    refine T_seq ?_
    refine T_cond rfl (fun h14 => ?_) (fun h14 => ?_)
    · try simp only [decide_eq_true_eq, decide_eq_false_iff_not, Bool.or_eq_true, Bool.or_eq_false_iff, Bool.and_eq_true, Bool.and_eq_false_iff, Bool.not_eq_true', Bool.not_eq_false', Bool.not_eq_true, Bool.not_eq_false, Bool.not_true, Bool.not_false, Int.not_lt, Int.not_le, not_or, not_and, Classical.not_not] at h14
      obtain ⟨a, hx1, hx2⟩ := hl.at (i := i) (by omega)
      obtain ⟨b, hy1, hy2⟩ := hm.at (i := i) (by omega)
      refine T_skip_go (fun _ _ h => h) ?_
      refine T_seq ?_
      refine T_block ?_
      refine T_seq ?_
      refine T_region ?_
      refine S_ 15 rfl rfl rfl _ (y_move rfl rfl) ?_
      refine S_ 5 rfl rfl rfl _ (y_assign rfl rfl) ?_
      refine S_go (fun _ _ h => h) ?_
      refine T_seq ?_
      refine T_draws (by kernel_rfl) (by kernel_rfl) ?_
      refine D_ 16 rfl rfl rfl _ (y_move rfl rfl) ?_
      refine D_ 17 rfl rfl rfl _ (y_move rfl rfl) ?_
      refine D_ 18 rfl rfl rfl _ (y_indexAddr rfl rfl rfl Tryd.underlying24 sz98 (fun hg => hl.isSome (by omega)) (fun _ => by omega)) ?_
      refine D_ 19 rfl rfl rfl _ (y_loadT rfl rfl hl (fun _ => rfl) (fun _ => hx1) Tryd.underlying98 rfl sz98) ?_
      refine D_ 20 rfl rfl rfl _ (y_move rfl rfl) ?_
      refine D_ 21 rfl rfl rfl _ (y_move rfl rfl) ?_
      refine D_ 22 rfl rfl rfl _ (y_indexAddr rfl rfl rfl Tryd.underlying24 sz98 (fun hg => hm.isSome (by omega)) (fun _ => by omega)) ?_
      refine D_ 23 rfl rfl rfl _ (y_loadT rfl rfl hm (fun _ => rfl) (fun _ => hy1) Tryd.underlying98 rfl sz98) ?_
      refine D_ 24 rfl rfl rfl _ (y_as (v' := .bool (!(SRow.eqB a b))) (by simp [SRow.eqB, str]) (y_bin rfl rfl rfl (fun _ => b_neqA (rs := [_, _, _]) Tryd.underlying98 (by kernel_rfl) (by kernel_rfl) ⟨by decide, ⟨_, Tryd.underlying3, rfl, _, _, rfl, rfl, rfl⟩, by decide, ⟨_, Tryd.underlying3, rfl, _, _, rfl, rfl, rfl⟩, by decide, ⟨_, Tryd.underlying3, rfl, _, _, rfl, rfl, rfl⟩, trivial⟩))) ?_
      refine D_go (fun _ _ h => h) ?_
      refine T_cond rfl (fun h24 => ?_) (fun h24 => ?_)
      · skip
        have h24e : SRow.eqB a b = false := by simpa using h24
        refine T_seq ?_
        refine T_region ?_
        refine S_ 4 rfl rfl rfl _ (y_assign rfl rfl) ?_
        refine S_go (fun _ _ h => h) ?_
        refine T_ret (fun a w hF hM => hRb a w (post1 rfl rfl (fun w hM => ?_) a w hF hM))
        exact ⟨by rw [hp2, hx2, hy2, eqLB, h24e, Bool.false_and], hM.below⟩
      · skip
        have h24e : SRow.eqB a b = true := by simpa using h24
        refine T_skip_go (fun _ _ h => h) ?_
        refine T_region ?_
        refine S_ 25 rfl rfl rfl _ (y_bin rfl rfl rfl (fun hg => b_add (by omega))) ?_
        refine S_ 13 rfl rfl rfl _ (y_move rfl rfl) ?_
        refine S_nil (nextK1 (kf := [(4, 5), (13, 25)]) (kl := [(4, 5), (13, 25)]) (i + 1) (by repeat (first | exact kf_nil | (apply kf_in; focus rfl) | (apply kf_out; focus rfl))) (by repeat (first | exact kl_nil | exact kl_rest (by assumption) rfl | (apply kl_in; focus rfl) | (apply kl_out; focus rfl))) ?_ ?_ ?_ ?_)
        · omega
        · exact ⟨by omega, by rw [hp2, hx2, hy2, eqLB, h24e, Bool.true_and]⟩
        · exact ⟨rfl, trivial⟩
        · exact trivial
    · try simp only [decide_eq_true_eq, decide_eq_false_iff_not, Bool.or_eq_true, Bool.or_eq_false_iff, Bool.and_eq_true, Bool.and_eq_false_iff, Bool.not_eq_true', Bool.not_eq_false', Bool.not_eq_true, Bool.not_eq_false, Bool.not_true, Bool.not_false, Int.not_lt, Int.not_le, not_or, not_and, Classical.not_not] at h14
      refine T_exit_go (fun _ _ h => h) ?_
      refine T_seq ?_
      refine T_region ?_
      refine S_ 4 rfl rfl rfl _ (y_assign rfl rfl) ?_
      refine S_go (fun _ _ h => h) ?_
      refine T_ret (fun a w hF hM => hRb a w (post1 rfl rfl (fun w hM => ?_) a w hF hM))
      exact ⟨by rw [hp2, hl.end (by omega), hm.end (by omega)]; rfl, hM.below⟩
theorem EqualC_any (A B : Option Addr) (q c p d : Nat) (l m : List (SCall)) (w : World) (hl : SlT SCall.enc 5 w A q l) (hm : SlT SCall.enc 5 w B p m) (hq : q ≤ 4611686018427387904) (hp : p ≤ 4611686018427387904) :
    Calls Tryd.prog 114 #[.slice A q c, .slice B p d] w fun e w' => e = .returned (.bool (eqLB SCall.eqB l m)) ∧ Below w.heap.size w w' := by
  have hlen := hl.len
  have hmen := hm.len
  refine enter_args (args := [.slice A q c, .slice B p d]) (F := _) Tryd.func114 rfl Tryd.ntmps114 rfl rfl ?_
  intro Rb hRb hRn
  refine T_seq ?_
  refine T_region ?_
  refine S_ 4 rfl rfl rfl _ (y_assign rfl rfl) ?_
  refine S_go (fun _ _ h => h) ?_
  refine T_seq ?_
  refine T_seq ?_
  refine T_region ?_
  refine S_ 6 rfl rfl rfl _ (y_move rfl rfl) ?_
  refine S_ 7 rfl rfl rfl _ (y_len_slice rfl rfl Tryd.underlying25) ?_
  refine S_ 8 rfl rfl rfl _ (y_move rfl rfl) ?_
  refine S_ 9 rfl rfl rfl _ (y_len_slice rfl rfl Tryd.underlying25) ?_
  refine S_ 10 rfl rfl rfl _ (y_bin rfl rfl rfl (fun _ => b_neq)) ?_
  refine S_go (fun _ _ h => h) ?_
  refine T_cond rfl (fun h10 => ?_) (fun h10 => ?_)
  · try simp only [decide_eq_true_eq, decide_eq_false_iff_not, Bool.or_eq_true, Bool.or_eq_false_iff, Bool.and_eq_true, Bool.and_eq_false_iff, Bool.not_eq_true', Bool.not_eq_false', Bool.not_eq_true, Bool.not_eq_false, Bool.not_true, Bool.not_false, Int.not_lt, Int.not_le, not_or, not_and, Classical.not_not] at h10
    refine T_seq ?_
    refine T_region ?_
    refine S_ 4 rfl rfl rfl _ (y_assign rfl rfl) ?_
    refine S_go (fun _ _ h => h) ?_
    refine T_ret (fun a w hF hM => hRb a w (post1 rfl rfl (fun w hM => ?_) a w hF hM))
    exact ⟨by rw [eqLB_len l m (by omega)], hM.below⟩
  · try simp only [decide_eq_true_eq, decide_eq_false_iff_not, Bool.or_eq_true, Bool.or_eq_false_iff, Bool.and_eq_true, Bool.and_eq_false_iff, Bool.not_eq_true', Bool.not_eq_false', Bool.not_eq_true, Bool.not_eq_false, Bool.not_true, Bool.not_false, Int.not_lt, Int.not_le, not_or, not_and, Classical.not_not] at h10
    refine T_skip_go (fun _ _ h => h) ?_
    refine T_seq ?_
    refine T_seq ?_
    refine T_region ?_
    refine S_ 11 rfl rfl rfl _ (y_move rfl rfl) ?_
    refine S_ 12 rfl rfl rfl _ (y_len_slice rfl rfl Tryd.underlying25) ?_
    refine S_ 13 rfl rfl rfl _ (y_move rfl rfl) ?_
    refine S_go (fun _ _ h => h) ?_
    refine T_block ?_
    refine T_loopK1 (kf := [(4, 5), (13, 25)]) (kl := [(4, 5), (13, 25)]) (fun (i : Nat) => [(13, true, .int .i64 (i : Int))]) (fun (i : Nat) => []) (fun (i : Nat) => i ≤ q ∧ eqLB SCall.eqB l m = eqLB SCall.eqB (l.drop i) (m.drop i)) (fun (i : Nat) => q - i) 0 (by repeat (first | exact kf_nil | (apply kf_in; focus rfl) | (apply kf_out; focus rfl))) (by repeat (first | exact kl_nil | exact kl_rest (by assumption) rfl | (apply kl_in; focus rfl) | (apply kl_out; focus rfl))) ?_ ?_ ?_ ?_
    · exact ⟨by omega, rfl⟩
    · exact ⟨rfl, trivial⟩
    · exact trivial
    rintro i ⟨hp1, hp2⟩
    refine T_seq ?_
    refine T_region ?_
    refine S_ 14 rfl rfl rfl _ (y_bin rfl rfl rfl (fun _ => b_lss)) ?_
    refine S_go (fun _ _ h => h) ?_
    refine T_seq ?_
    refine T_cond rfl (fun h14 => ?_) (fun h14 => ?_)
    · try simp only [decide_eq_true_eq, decide_eq_false_iff_not, Bool.or_eq_true, Bool.or_eq_false_iff, Bool.and_eq_true, Bool.and_eq_false_iff, Bool.not_eq_true', Bool.not_eq_false', Bool.not_eq_true, Bool.not_eq_false, Bool.not_true, Bool.not_false, Int.not_lt, Int.not_le, not_or, not_and, Classical.not_not] at h14
      obtain ⟨a, hx1, hx2⟩ := hl.at (i := i) (by omega)
      obtain ⟨b, hy1, hy2⟩ := hm.at (i := i) (by omega)
      refine T_skip_go (fun _ _ h => h) ?_
      refine T_seq ?_
      refine T_block ?_
      refine T_seq ?_
      refine T_region ?_
      refine S_ 15 rfl rfl rfl _ (y_move rfl rfl) ?_
      refine S_ 5 rfl rfl rfl _ (y_assign rfl rfl) ?_
      refine S_go (fun _ _ h => h) ?_
      refine T_seq ?_
      refine T_draws (by kernel_rfl) (by kernel_rfl) ?_
      refine D_ 16 rfl rfl rfl _ (y_move rfl rfl) ?_
      refine D_ 17 rfl rfl rfl _ (y_move rfl rfl) ?_
      refine D_ 18 rfl rfl rfl _ (y_indexAddr rfl rfl rfl Tryd.underlying25 sz110 (fun hg => hl.isSome (by omega)) (fun _ => by omega)) ?_
      refine D_ 19 rfl rfl rfl _ (y_loadT rfl rfl hl (fun _ => rfl) (fun _ => hx1) Tryd.underlying110 rfl sz110) ?_
      refine D_ 20 rfl rfl rfl _ (y_move rfl rfl) ?_
      refine D_ 21 rfl rfl rfl _ (y_move rfl rfl) ?_
      refine D_ 22 rfl rfl rfl _ (y_indexAddr rfl rfl rfl Tryd.underlying25 sz110 (fun hg => hm.isSome (by omega)) (fun _ => by omega)) ?_
      refine D_ 23 rfl rfl rfl _ (y_loadT rfl rfl hm (fun _ => rfl) (fun _ => hy1) Tryd.underlying110 rfl sz110) ?_
      refine D_ 24 rfl rfl rfl _ (y_as (v' := .bool (!(SCall.eqB a b))) (by simp [SCall.eqB, str]) (y_bin rfl rfl rfl (fun _ => b_neqA (rs := [_, _, _, _, _]) Tryd.underlying110 (by kernel_rfl) (by kernel_rfl) ⟨by decide, ⟨_, Tryd.underlying9, rfl, _, _, rfl, rfl, rfl⟩, by decide, ⟨_, Tryd.underlying3, rfl, _, _, rfl, rfl, rfl⟩, by decide, ⟨_, Tryd.underlying3, rfl, _, _, rfl, rfl, rfl⟩, by decide, ⟨_, Tryd.underlying3, rfl, _, _, rfl, rfl, rfl⟩, by decide, ⟨_, Tryd.underlying3, rfl, _, _, rfl, rfl, rfl⟩, trivial⟩))) ?_
      refine D_go (fun _ _ h => h) ?_
      refine T_cond rfl (fun h24 => ?_) (fun h24 => ?_)
      · skip
        have h24e : SCall.eqB a b = false := by simpa using h24
        refine T_seq ?_
        refine T_region ?_
        refine S_ 4 rfl rfl rfl _ (y_assign rfl rfl) ?_
        refine S_go (fun _ _ h => h) ?_
        refine T_ret (fun a w hF hM => hRb a w (post1 rfl rfl (fun w hM => ?_) a w hF hM))
        exact ⟨by rw [hp2, hx2, hy2, eqLB, h24e, Bool.false_and], hM.below⟩
      · skip
        have h24e : SCall.eqB a b = true := by simpa using h24
        refine T_skip_go (fun _ _ h => h) ?_
        refine T_region ?_
        refine S_ 25 rfl rfl rfl _ (y_bin rfl rfl rfl (fun hg => b_add (by omega))) ?_
        refine S_ 13 rfl rfl rfl _ (y_move rfl rfl) ?_
        refine S_nil (nextK1 (kf := [(4, 5), (13, 25)]) (kl := [(4, 5), (13, 25)]) (i + 1) (by repeat (first | exact kf_nil | (apply kf_in; focus rfl) | (apply kf_out; focus rfl))) (by repeat (first | exact kl_nil | exact kl_rest (by assumption) rfl | (apply kl_in; focus rfl) | (apply kl_out; focus rfl))) ?_ ?_ ?_ ?_)
        · omega
        · exact ⟨by omega, by rw [hp2, hx2, hy2, eqLB, h24e, Bool.true_and]⟩
        · exact ⟨rfl, trivial⟩
        · exact trivial
    · try simp only [decide_eq_true_eq, decide_eq_false_iff_not, Bool.or_eq_true, Bool.or_eq_false_iff, Bool.and_eq_true, Bool.and_eq_false_iff, Bool.not_eq_true', Bool.not_eq_false', Bool.not_eq_true, Bool.not_eq_false, Bool.not_true, Bool.not_false, Int.not_lt, Int.not_le, not_or, not_and, Classical.not_not] at h14
      refine T_exit_go (fun _ _ h => h) ?_
      refine T_seq ?_
      refine T_region ?_
      refine S_ 4 rfl rfl rfl _ (y_assign rfl rfl) ?_
      refine S_go (fun _ _ h => h) ?_
      refine T_ret (fun a w hF hM => hRb a w (post1 rfl rfl (fun w hM => ?_) a w hF hM))
      exact ⟨by rw [hp2, hl.end (by omega), hm.end (by omega)]; rfl, hM.below⟩
def sameB (t u : Tab) : Bool := decide (t.id = u.id) && decide (t.size = u.size) && eqLB sEq t.fi.l u.fi.l && eqLB SFunc.eqB t.fu.l u.fu.l && eqLB SRow.eqB t.ro.l u.ro.l && eqLB SCall.eqB t.ca.l u.ca.l
theorem sameB_iff (t u : Tab) : sameB t u = true ↔ t.pl = u.pl := by
  simp only [sameB, Bool.and_eq_true, decide_eq_true_eq, eqLB_iff sEq_iff, eqLB_iff SFunc.eqB_iff, eqLB_iff SRow.eqB_iff, eqLB_iff SCall.eqB_iff, Tab.pl, PT.mk.injEq, and_assoc]
theorem SameTable_any (t u : Tab) (w : World) (ht : t.Ok w) (hu : u.Ok w) :
    Calls Tryd.prog 73 #[.agg #[str t.id, .int .i64 t.size, .slice t.fi.A t.fi.q t.fi.c, .slice t.fu.A t.fu.q t.fu.c, .slice t.ro.A t.ro.q t.ro.c, .slice t.ca.A t.ca.q t.ca.c], .agg #[str u.id, .int .i64 u.size, .slice u.fi.A u.fi.q u.fi.c, .slice u.fu.A u.fu.q u.fu.c, .slice u.ro.A u.ro.q u.ro.c, .slice u.ca.A u.ca.q u.ca.c]] w fun e w' => e = .returned (.bool (sameB t u)) ∧ Below w.heap.size w w' := by
  have hq := ht.small
  have hr := hu.small
  refine enter_args (args := [.agg #[str t.id, .int .i64 t.size, .slice t.fi.A t.fi.q t.fi.c, .slice t.fu.A t.fu.q t.fu.c, .slice t.ro.A t.ro.q t.ro.c, .slice t.ca.A t.ca.q t.ca.c], .agg #[str u.id, .int .i64 u.size, .slice u.fi.A u.fi.q u.fi.c, .slice u.fu.A u.fu.q u.fu.c, .slice u.ro.A u.ro.q u.ro.c, .slice u.ca.A u.ca.q u.ca.c]]) (F := _) Tryd.func73 rfl Tryd.ntmps73 rfl rfl ?_
  intro Rb hRb hRn
  refine T_seq ?_
  refine T_region ?_
  refine S_box 2 2 rfl rfl rfl rfl rfl ?_
  intro b2
  refine S_box 3 3 rfl rfl rfl rfl rfl ?_
  intro b3
  refine S_ 4 rfl rfl rfl _ (y_assign rfl rfl) ?_
  refine S_go (fun _ _ h => h) ?_
  refine T_seq ?_
  refine T_region ?_
  refine S_ 5 rfl rfl rfl _ (y_fieldAddr rfl rfl fa27_0) ?_
  refine S_ 6 rfl rfl rfl _ (y_load 2 rfl rfl rfl rfl Tryd.underlying9 rfl) ?_
  refine S_ 7 rfl rfl rfl _ (y_fieldAddr rfl rfl fa27_0) ?_
  refine S_ 8 rfl rfl rfl _ (y_load 3 rfl rfl rfl rfl Tryd.underlying9 rfl) ?_
  refine S_ 9 rfl rfl rfl _ (y_bin rfl rfl rfl (fun _ => b_eqls)) ?_
  refine S_ 10 rfl rfl rfl _ (y_move rfl rfl) ?_
  refine Sg_ 11 rfl rfl rfl rfl rfl rfl _ (y_fieldAddr rfl rfl fa27_1) ?_
  refine Sg_ 12 rfl rfl rfl rfl rfl rfl _ (y_load 2 rfl rfl rfl rfl Tryd.underlying3 rfl) ?_
  refine Sg_ 13 rfl rfl rfl rfl rfl rfl _ (y_fieldAddr rfl rfl fa27_1) ?_
  refine Sg_ 14 rfl rfl rfl rfl rfl rfl _ (y_load 3 rfl rfl rfl rfl Tryd.underlying3 rfl) ?_
  refine Sg_ 15 rfl rfl rfl rfl rfl rfl _ (y_bin rfl rfl rfl (fun _ => b_eql)) ?_
  refine S_ 16 rfl rfl rfl _ (y_and rfl rfl rfl) ?_
  refine S_ 17 rfl rfl rfl _ (y_move rfl rfl) ?_
  refine Sg_ 18 rfl rfl rfl rfl rfl rfl _ (y_fieldAddr rfl rfl fa27_2) ?_
  refine Sg_ 19 rfl rfl rfl rfl rfl rfl _ (y_load 2 rfl rfl rfl rfl Tryd.underlying22 rfl) ?_
  refine Sg_ 20 rfl rfl rfl rfl rfl rfl _ (y_fieldAddr rfl rfl fa27_2) ?_
  refine Sg_ 21 rfl rfl rfl rfl rfl rfl _ (y_load 3 rfl rfl rfl rfl Tryd.underlying22 rfl) ?_
  refine Sg_ 22 rfl rfl rfl rfl rfl rfl _ (y_call rfl rfl rfl cf80 (fun _ w hM => EqualS_any _ _ _ _ _ _ t.fi.l u.fi.l w (ht.fi.t.below hM.below) (hu.fi.t.below hM.below) (by omega) (by omega))) ?_
  refine S_ 23 rfl rfl rfl _ (y_and rfl rfl rfl) ?_
  refine S_ 24 rfl rfl rfl _ (y_move rfl rfl) ?_
  refine Sg_ 25 rfl rfl rfl rfl rfl rfl _ (y_fieldAddr rfl rfl fa27_3) ?_
  refine Sg_ 26 rfl rfl rfl rfl rfl rfl _ (y_load 2 rfl rfl rfl rfl Tryd.underlying23 rfl) ?_
  refine Sg_ 27 rfl rfl rfl rfl rfl rfl _ (y_fieldAddr rfl rfl fa27_3) ?_
  refine Sg_ 28 rfl rfl rfl rfl rfl rfl _ (y_load 3 rfl rfl rfl rfl Tryd.underlying23 rfl) ?_
  refine Sg_ 29 rfl rfl rfl rfl rfl rfl _ (y_call rfl rfl rfl cf112 (fun _ w hM => EqualF_any _ _ _ _ _ _ t.fu.l u.fu.l w (ht.fu.t.below hM.below) (hu.fu.t.below hM.below) (by omega) (by omega))) ?_
  refine S_ 30 rfl rfl rfl _ (y_and rfl rfl rfl) ?_
  refine S_ 31 rfl rfl rfl _ (y_move rfl rfl) ?_
  refine Sg_ 32 rfl rfl rfl rfl rfl rfl _ (y_fieldAddr rfl rfl fa27_4) ?_
  refine Sg_ 33 rfl rfl rfl rfl rfl rfl _ (y_load 2 rfl rfl rfl rfl Tryd.underlying24 rfl) ?_
  refine Sg_ 34 rfl rfl rfl rfl rfl rfl _ (y_fieldAddr rfl rfl fa27_4) ?_
  refine Sg_ 35 rfl rfl rfl rfl rfl rfl _ (y_load 3 rfl rfl rfl rfl Tryd.underlying24 rfl) ?_
  refine Sg_ 36 rfl rfl rfl rfl rfl rfl _ (y_call rfl rfl rfl cf113 (fun _ w hM => EqualR_any _ _ _ _ _ _ t.ro.l u.ro.l w (ht.ro.t.below hM.below) (hu.ro.t.below hM.below) (by omega) (by omega))) ?_
  refine S_ 37 rfl rfl rfl _ (y_and rfl rfl rfl) ?_
  refine S_ 38 rfl rfl rfl _ (y_move rfl rfl) ?_
  refine Sg_ 39 rfl rfl rfl rfl rfl rfl _ (y_fieldAddr rfl rfl fa27_5) ?_
  refine Sg_ 40 rfl rfl rfl rfl rfl rfl _ (y_load 2 rfl rfl rfl rfl Tryd.underlying25 rfl) ?_
  refine Sg_ 41 rfl rfl rfl rfl rfl rfl _ (y_fieldAddr rfl rfl fa27_5) ?_
  refine Sg_ 42 rfl rfl rfl rfl rfl rfl _ (y_load 3 rfl rfl rfl rfl Tryd.underlying25 rfl) ?_
  refine Sg_ 43 rfl rfl rfl rfl rfl rfl _ (y_call rfl rfl rfl cf114 (fun _ w hM => EqualC_any _ _ _ _ _ _ t.ca.l u.ca.l w (ht.ca.t.below hM.below) (hu.ca.t.below hM.below) (by omega) (by omega))) ?_
  refine S_ 44 rfl rfl rfl _ (y_and rfl rfl rfl) ?_
  refine S_ 4 rfl rfl rfl _ (y_assign rfl rfl) ?_
  refine S_go (fun _ _ h => h) ?_
  refine T_ret (fun a w hF hM => hRb a w (post1 rfl rfl (fun w hM => ?_) a w hF hM))
  exact ⟨rfl, hM.below⟩
theorem table_any (t u : Tab) (a b : Int) (w : World) (ht : t.Ok w) (hu : u.Ok w) :
    Calls Tryd.prog 26 #[.agg #[str t.id, .int .i64 t.size, .slice t.fi.A t.fi.q t.fi.c, .slice t.fu.A t.fu.q t.fu.c, .slice t.ro.A t.ro.q t.ro.c, .slice t.ca.A t.ca.q t.ca.c], .int .i64 a, .agg #[str u.id, .int .i64 u.size, .slice u.fi.A u.fi.q u.fi.c, .slice u.fu.A u.fu.q u.fu.c, .slice u.ro.A u.ro.q u.ro.c, .slice u.ca.A u.ca.q u.ca.c], .int .i64 b] w fun e w' => e = .returned (.bool (sameB t (if b = 0 then u else Tab0) && decide (a = b))) ∧ Below w.heap.size w w' := by
  refine enter_args (args := [.agg #[str t.id, .int .i64 t.size, .slice t.fi.A t.fi.q t.fi.c, .slice t.fu.A t.fu.q t.fu.c, .slice t.ro.A t.ro.q t.ro.c, .slice t.ca.A t.ca.q t.ca.c], .int .i64 a, .agg #[str u.id, .int .i64 u.size, .slice u.fi.A u.fi.q u.fi.c, .slice u.fu.A u.fu.q u.fu.c, .slice u.ro.A u.ro.q u.ro.c, .slice u.ca.A u.ca.q u.ca.c], .int .i64 b]) (F := _) Tryd.func26 rfl Tryd.ntmps26 rfl rfl ?_
  intro Rb hRb hRn
  refine T_seq ?_
  refine T_region ?_
  refine S_box 4 4 rfl rfl rfl rfl rfl ?_
  intro b4
  refine S_box 6 6 rfl rfl rfl rfl rfl ?_
  intro b6
  refine S_ 8 rfl rfl rfl _ (y_assign rfl rfl) ?_
  refine S_go (fun _ _ h => h) ?_
  refine T_seq ?_
  refine T_seq ?_
  refine T_region ?_
  refine S_ 9 rfl rfl rfl _ (y_move rfl rfl) ?_
  refine S_ 10 rfl rfl rfl _ (y_bin rfl rfl rfl (fun _ => b_neq)) ?_
  refine S_go (fun _ _ h => h) ?_
  refine T_cond rfl (fun h10 => ?_) (fun h10 => ?_)
  · try simp only [decide_eq_true_eq, decide_eq_false_iff_not, Bool.or_eq_true, Bool.or_eq_false_iff, Bool.and_eq_true, Bool.and_eq_false_iff, Bool.not_eq_true', Bool.not_eq_false', Bool.not_eq_true, Bool.not_eq_false, Bool.not_true, Bool.not_false, Int.not_lt, Int.not_le, not_or, not_and, Classical.not_not] at h10
    refine T_region ?_
    refine S_ 11 rfl rfl rfl _ (y_build (zv := .agg #[.string ⟨#[]⟩, .int .i64 0, .slice none 0 0, .slice none 0 0, .slice none 0 0, .slice none 0 0]) (pl := [(0, 1), (1, 1), (2, 1), (3, 1), (4, 1), (5, 1)]) (out := [.string ⟨#[]⟩, .int .i64 0, .slice none 0 0, .slice none 0 0, .slice none 0 0, .slice none 0 0]) rfl rfl Tryd.underlying27 z27 (by kernel_rfl) rfl) ?_
    refine S_store 6 rfl rfl rfl rfl rfl rfl sz27 rfl rfl ?_
    refine S_go (fun _ _ h => h) ?_
    refine T_seq ?_
    refine T_region ?_
    refine S_ 12 rfl rfl rfl _ (y_loadA 4 rfl rfl rfl Tryd.underlying27 rfl sz27) ?_
    refine S_ 13 rfl rfl rfl _ (y_loadA 6 rfl rfl rfl Tryd.underlying27 rfl sz27) ?_
    refine S_ 14 rfl rfl rfl _ (y_call rfl rfl rfl cf73 (fun _ w hM => SameTable_any t Tab0 w (ht.below hM.below) Tab0.ok)) ?_
    refine S_ 15 rfl rfl rfl _ (y_move rfl rfl) ?_
    refine Sg_ 16 rfl rfl rfl rfl rfl rfl _ (y_move rfl rfl) ?_
    refine Sg_ 17 rfl rfl rfl rfl rfl rfl _ (y_move rfl rfl) ?_
    refine Sg_ 18 rfl rfl rfl rfl rfl rfl _ (y_bin rfl rfl rfl (fun _ => b_eql)) ?_
    refine S_ 19 rfl rfl rfl _ (y_and rfl rfl rfl) ?_
    refine S_ 8 rfl rfl rfl _ (y_assign rfl rfl) ?_
    refine S_go (fun _ _ h => h) ?_
    refine T_ret (fun a w hF hM => hRb a w (post1 rfl rfl (fun w hM => ?_) a w hF hM))
    exact ⟨by rw [if_neg h10], hM.below⟩
  · try simp only [decide_eq_true_eq, decide_eq_false_iff_not, Bool.or_eq_true, Bool.or_eq_false_iff, Bool.and_eq_true, Bool.and_eq_false_iff, Bool.not_eq_true', Bool.not_eq_false', Bool.not_eq_true, Bool.not_eq_false, Bool.not_true, Bool.not_false, Int.not_lt, Int.not_le, not_or, not_and, Classical.not_not] at h10
    refine T_skip_go (fun _ _ h => h) ?_
    refine T_seq ?_
    refine T_region ?_
    refine S_ 12 rfl rfl rfl _ (y_loadA 4 rfl rfl rfl Tryd.underlying27 rfl sz27) ?_
    refine S_ 13 rfl rfl rfl _ (y_loadA 6 rfl rfl rfl Tryd.underlying27 rfl sz27) ?_
    refine S_ 14 rfl rfl rfl _ (y_call rfl rfl rfl cf73 (fun _ w hM => SameTable_any t u w (ht.below hM.below) (hu.below hM.below))) ?_
    refine S_ 15 rfl rfl rfl _ (y_move rfl rfl) ?_
    refine Sg_ 16 rfl rfl rfl rfl rfl rfl _ (y_move rfl rfl) ?_
    refine Sg_ 17 rfl rfl rfl rfl rfl rfl _ (y_move rfl rfl) ?_
    refine Sg_ 18 rfl rfl rfl rfl rfl rfl _ (y_bin rfl rfl rfl (fun _ => b_eql)) ?_
    refine S_ 19 rfl rfl rfl _ (y_and rfl rfl rfl) ?_
    refine S_ 8 rfl rfl rfl _ (y_assign rfl rfl) ?_
    refine S_go (fun _ _ h => h) ?_
    refine T_ret (fun a w hF hM => hRb a w (post1 rfl rfl (fun w hM => ?_) a w hF hM))
    exact ⟨by rw [if_pos h10], hM.below⟩
theorem long_any (x : List UInt8) (w : World) :
    Calls Tryd.prog 21 #[str x] w fun e w' => e = .returned (.int .i64 (if (1000000 : Int) < x.length then 4 else 0)) ∧ Below w.heap.size w w' := by
  refine enter_args (args := [str x]) (F := _) Tryd.func21 rfl Tryd.ntmps21 rfl rfl ?_
  intro Rb hRb hRn
  refine T_seq ?_
  refine T_region ?_
  refine S_ 2 rfl rfl rfl _ (y_assign rfl rfl) ?_
  refine S_go (fun _ _ h => h) ?_
  refine T_seq ?_
  refine T_seq ?_
  refine T_region ?_
  refine S_ 3 rfl rfl rfl _ (y_move rfl rfl) ?_
  refine S_ 4 rfl rfl rfl _ (y_len_str rfl rfl Tryd.underlying9) ?_
  refine S_ 5 rfl rfl rfl _ (y_bin rfl rfl rfl (fun _ => b_gtr)) ?_
  refine S_go (fun _ _ h => h) ?_
  refine T_cond rfl (fun h5 => ?_) (fun h5 => ?_)
  · try simp only [decide_eq_true_eq, decide_eq_false_iff_not, Bool.or_eq_true, Bool.or_eq_false_iff, Bool.and_eq_true, Bool.and_eq_false_iff, Bool.not_eq_true', Bool.not_eq_false', Bool.not_eq_true, Bool.not_eq_false, Bool.not_true, Bool.not_false, Int.not_lt, Int.not_le, not_or, not_and, Classical.not_not] at h5
    refine T_seq ?_
    refine T_region ?_
    refine S_ 2 rfl rfl rfl _ (y_assign rfl rfl) ?_
    refine S_go (fun _ _ h => h) ?_
    refine T_ret (fun a w hF hM => hRb a w (post1 rfl rfl (fun w hM => ?_) a w hF hM))
    exact ⟨by rw [if_pos h5], hM.below⟩
  · try simp only [decide_eq_true_eq, decide_eq_false_iff_not, Bool.or_eq_true, Bool.or_eq_false_iff, Bool.and_eq_true, Bool.and_eq_false_iff, Bool.not_eq_true', Bool.not_eq_false', Bool.not_eq_true, Bool.not_eq_false, Bool.not_true, Bool.not_false, Int.not_lt, Int.not_le, not_or, not_and, Classical.not_not] at h5
    refine T_skip_go (fun _ _ h => h) ?_
    refine T_seq ?_
    refine T_region ?_
    refine S_ 2 rfl rfl rfl _ (y_assign rfl rfl) ?_
    refine S_go (fun _ _ h => h) ?_
    refine T_ret (fun a w hF hM => hRb a w (post1 rfl rfl (fun w hM => ?_) a w hF hM))
    exact ⟨by rw [if_neg (by omega)], hM.below⟩
end Go.Proofs.YtofolhnecfkjkaaDoor
