/- Events are compared, and what is asked of one: Same, Tag, Levels, and the reference's. Conditions: those of each theorem. -/
import Derived.Test.YtoeipmepmlikcaaDoorEChk
namespace Go.Proofs.YtoeipmepmlikcaaDoor
set_option linter.unusedSimpArgs false
set_option linter.unusedVariables false
set_option maxRecDepth 20000
open Go.RowKit Go.Eng
def Frm.eqB (a b : Frm) : Bool := decide (a.m = b.m) && (decide (a.f = b.f) && (decide (a.fi = b.fi) && (decide (a.ln = b.ln) && (decide (a.ad = b.ad) && (a.own == b.own)))))
theorem Frm.eqB_iff (a b : Frm) : Frm.eqB a b = true ↔ a = b := by cases a; cases b; simp [Frm.eqB]
def STag.eqB (a b : STag) : Bool := decide (a.n = b.n) && decide (a.v = b.v)
theorem STag.eqB_iff (a b : STag) : STag.eqB a b = true ↔ a = b := by cases a; cases b; simp [STag.eqB]
def SCrumb.eqB (a b : SCrumb) : Bool := decide (a.at_ = b.at_) && (decide (a.k = b.k) && decide (a.t = b.t))
theorem SCrumb.eqB_iff (a b : SCrumb) : SCrumb.eqB a b = true ↔ a = b := by cases a; cases b; simp [SCrumb.eqB]
def strE (l : List UInt8) : List Value := [str l]
def sEq (a b : List UInt8) : Bool := decide (a = b)
theorem sEq_iff (a b : List UInt8) : sEq a b = true ↔ a = b := by simp [sEq]
theorem EqualFr_any (A B : Option Addr) (q c p d : Nat) (l m : List (Frm)) (w : World) (hl : SlT Frm.enc 6 w A q l) (hm : SlT Frm.enc 6 w B p m) (hq : q ≤ 4611686018427387904) (hp : p ≤ 4611686018427387904) :
    Calls Tryd.prog 182 #[.slice A q c, .slice B p d] w fun e w' => e = .returned (.bool (eqLB Frm.eqB l m)) ∧ Below w.heap.size w w' := by
  have hlen := hl.len
  have hmen := hm.len
  refine enter_args (args := [.slice A q c, .slice B p d]) (F := _) Tryd.func182 rfl Tryd.ntmps182 rfl rfl ?_
  intro Rb hRb hRn
  refine T_seq ?_
  refine T_region ?_
  refine S_ 4 rfl rfl rfl _ (y_assign rfl rfl) ?_
  refine S_go (fun _ _ h => h) ?_
  refine T_seq ?_
  refine T_seq ?_
  refine T_region ?_
  refine S_ 6 rfl rfl rfl _ (y_move rfl rfl) ?_
  refine S_ 7 rfl rfl rfl _ (y_len_slice rfl rfl Tryd.underlying68) ?_
  refine S_ 8 rfl rfl rfl _ (y_move rfl rfl) ?_
  refine S_ 9 rfl rfl rfl _ (y_len_slice rfl rfl Tryd.underlying68) ?_
  refine S_ 10 rfl rfl rfl _ (y_bin rfl rfl rfl (fun _ => b_neq)) ?_
  refine S_go (fun _ _ h => h) ?_
  refine T_cond rfl (fun h10 => ?_) (fun h10 => ?_)
  · try simp only [decide_eq_true_eq, decide_eq_false_iff_not, Bool.or_eq_true, Bool.or_eq_false_iff, Bool.and_eq_true, Bool.and_eq_false_iff, Bool.not_eq_true', Bool.not_eq_false', Bool.not_eq_true, Bool.not_eq_false, Bool.not_true, Bool.not_false, Int.not_lt, Int.not_le, not_or, not_and, Classical.not_not] at h10
    refine T_seq ?_
    refine T_region ?_
    refine S_ 4 rfl rfl rfl _ (y_assign rfl rfl) ?_
    refine S_go (fun _ _ h => h) ?_
    refine T_ret (fun a w hF hM => hRb a w (post1 rfl rfl (fun w hM => ?_) a w hF hM))
    exact ⟨by rw [eqLB_len l m (by omega)], hM.below⟩
  · try simp only [decide_eq_true_eq, decide_eq_false_iff_not, Bool.or_eq_true, Bool.or_eq_false_iff, Bool.and_eq_true, Bool.and_eq_false_iff, Bool.not_eq_true', Bool.not_eq_false', Bool.not_eq_true, Bool.not_eq_false, Bool.not_true, Bool.not_false, Int.not_lt, Int.not_le, not_or, not_and, Classical.not_not] at h10
    refine T_skip_go (fun _ _ h => h) ?_
    refine T_seq ?_
    refine T_seq ?_
    refine T_region ?_
    refine S_ 11 rfl rfl rfl _ (y_move rfl rfl) ?_
    refine S_ 12 rfl rfl rfl _ (y_len_slice rfl rfl Tryd.underlying68) ?_
    refine S_ 13 rfl rfl rfl _ (y_move rfl rfl) ?_
    refine S_go (fun _ _ h => h) ?_
    refine T_block ?_
    refine T_loopK1 (kf := [(4, 5), (13, 25)]) (kl := [(4, 5), (13, 25)]) (fun (i : Nat) => [(13, true, .int .i64 (i : Int))]) (fun (i : Nat) => []) (fun (i : Nat) => i ≤ q ∧ eqLB Frm.eqB l m = eqLB Frm.eqB (l.drop i) (m.drop i)) (fun (i : Nat) => q - i) 0 (by repeat (first | exact kf_nil | (apply kf_in; focus rfl) | (apply kf_out; focus rfl))) (by repeat (first | exact kl_nil | exact kl_rest (by assumption) rfl | (apply kl_in; focus rfl) | (apply kl_out; focus rfl))) ?_ ?_ ?_ ?_
    · exact ⟨by omega, rfl⟩
    · exact ⟨rfl, trivial⟩
    · exact trivial
    rintro i ⟨hp1, hp2⟩
    refine T_seq ?_
    refine T_region ?_
    refine S_ 14 rfl rfl rfl _ (y_bin rfl rfl rfl (fun _ => b_lss)) ?_
    refine S_go (fun _ _ h => h) ?_
    refine T_seq ?_
    refine T_cond rfl (fun h14 => ?_) (fun h14 => ?_)
    · try simp only [decide_eq_true_eq, decide_eq_false_iff_not, Bool.or_eq_true, Bool.or_eq_false_iff, Bool.and_eq_true, Bool.and_eq_false_iff, Bool.not_eq_true', Bool.not_eq_false', Bool.not_eq_true, Bool.not_eq_false, Bool.not_true, Bool.not_false, Int.not_lt, Int.not_le, not_or, not_and, Classical.not_not] at h14
      obtain ⟨a, hx1, hx2⟩ := hl.at (i := i) (by omega)
      obtain ⟨b, hy1, hy2⟩ := hm.at (i := i) (by omega)
      refine T_skip_go (fun _ _ h => h) ?_
      refine T_seq ?_
      refine T_block ?_
      refine T_seq ?_
      refine T_region ?_
      refine S_ 15 rfl rfl rfl _ (y_move rfl rfl) ?_
      refine S_ 5 rfl rfl rfl _ (y_assign rfl rfl) ?_
      refine S_go (fun _ _ h => h) ?_
      refine T_seq ?_
      refine T_draws (by kernel_rfl) (by kernel_rfl) ?_
      refine D_ 16 rfl rfl rfl _ (y_move rfl rfl) ?_
      refine D_ 17 rfl rfl rfl _ (y_move rfl rfl) ?_
      refine D_ 18 rfl rfl rfl _ (y_indexAddr rfl rfl rfl Tryd.underlying68 sz148 (fun hg => hl.isSome (by omega)) (fun _ => by omega)) ?_
      refine D_ 19 rfl rfl rfl _ (y_loadT rfl rfl hl (fun _ => rfl) (fun _ => hx1) Tryd.underlying148 rfl sz148) ?_
      refine D_ 20 rfl rfl rfl _ (y_move rfl rfl) ?_
      refine D_ 21 rfl rfl rfl _ (y_move rfl rfl) ?_
      refine D_ 22 rfl rfl rfl _ (y_indexAddr rfl rfl rfl Tryd.underlying68 sz148 (fun hg => hm.isSome (by omega)) (fun _ => by omega)) ?_
      refine D_ 23 rfl rfl rfl _ (y_loadT rfl rfl hm (fun _ => rfl) (fun _ => hy1) Tryd.underlying148 rfl sz148) ?_
      refine D_ 24 rfl rfl rfl _ (y_as (v' := .bool (!(Frm.eqB a b))) (by simp [Frm.eqB, str]) (y_bin rfl rfl rfl (fun _ => b_neqA (rs := [_, _, _, _, _, _]) Tryd.underlying148 (by kernel_rfl) (by kernel_rfl) ⟨by decide, ⟨_, Tryd.underlying9, rfl, _, _, rfl, rfl, rfl⟩, by decide, ⟨_, Tryd.underlying9, rfl, _, _, rfl, rfl, rfl⟩, by decide, ⟨_, Tryd.underlying9, rfl, _, _, rfl, rfl, rfl⟩, by decide, ⟨_, Tryd.underlying3, rfl, _, _, rfl, rfl, rfl⟩, by decide, ⟨_, Tryd.underlying3, rfl, _, _, rfl, rfl, rfl⟩, by decide, ⟨_, Tryd.underlying4, rfl, _, _, rfl, rfl, rfl⟩, trivial⟩))) ?_
      refine D_go (fun _ _ h => h) ?_
      refine T_cond rfl (fun h24 => ?_) (fun h24 => ?_)
      · skip
        have h24e : Frm.eqB a b = false := by simpa using h24
        refine T_seq ?_
        refine T_region ?_
        refine S_ 4 rfl rfl rfl _ (y_assign rfl rfl) ?_
        refine S_go (fun _ _ h => h) ?_
        refine T_ret (fun a w hF hM => hRb a w (post1 rfl rfl (fun w hM => ?_) a w hF hM))
        exact ⟨by rw [hp2, hx2, hy2, eqLB, h24e, Bool.false_and], hM.below⟩
      · skip
        have h24e : Frm.eqB a b = true := by simpa using h24
        refine T_skip_go (fun _ _ h => h) ?_
        refine T_region ?_
        refine S_ 25 rfl rfl rfl _ (y_bin rfl rfl rfl (fun hg => b_add (by omega))) ?_
        refine S_ 13 rfl rfl rfl _ (y_move rfl rfl) ?_
        refine S_nil (nextK1 (kf := [(4, 5), (13, 25)]) (kl := [(4, 5), (13, 25)]) (i + 1) (by repeat (first | exact kf_nil | (apply kf_in; focus rfl) | (apply kf_out; focus rfl))) (by repeat (first | exact kl_nil | exact kl_rest (by assumption) rfl | (apply kl_in; focus rfl) | (apply kl_out; focus rfl))) ?_ ?_ ?_ ?_)
        · omega
        · exact ⟨by omega, by rw [hp2, hx2, hy2, eqLB, h24e, Bool.true_and]⟩
        · exact ⟨rfl, trivial⟩
        · exact trivial
    · try simp only [decide_eq_true_eq, decide_eq_false_iff_not, Bool.or_eq_true, Bool.or_eq_false_iff, Bool.and_eq_true, Bool.and_eq_false_iff, Bool.not_eq_true', Bool.not_eq_false', Bool.not_eq_true, Bool.not_eq_false, Bool.not_true, Bool.not_false, Int.not_lt, Int.not_le, not_or, not_and, Classical.not_not] at h14
      refine T_exit_go (fun _ _ h => h) ?_
      refine T_seq ?_
      refine T_region ?_
      refine S_ 4 rfl rfl rfl _ (y_assign rfl rfl) ?_
      refine S_go (fun _ _ h => h) ?_
      refine T_ret (fun a w hF hM => hRb a w (post1 rfl rfl (fun w hM => ?_) a w hF hM))
      exact ⟨by rw [hp2, hl.end (by omega), hm.end (by omega)]; rfl, hM.below⟩
theorem EqualTg_any (A B : Option Addr) (q c p d : Nat) (l m : List (STag)) (w : World) (hl : SlT STag.enc 2 w A q l) (hm : SlT STag.enc 2 w B p m) (hq : q ≤ 4611686018427387904) (hp : p ≤ 4611686018427387904) :
    Calls Tryd.prog 100 #[.slice A q c, .slice B p d] w fun e w' => e = .returned (.bool (eqLB STag.eqB l m)) ∧ Below w.heap.size w w' := by
  have hlen := hl.len
  have hmen := hm.len
  refine enter_args (args := [.slice A q c, .slice B p d]) (F := _) Tryd.func100 rfl Tryd.ntmps100 rfl rfl ?_
  intro Rb hRb hRn
  refine T_seq ?_
  refine T_region ?_
  refine S_ 4 rfl rfl rfl _ (y_assign rfl rfl) ?_
  refine S_go (fun _ _ h => h) ?_
  refine T_seq ?_
  refine T_seq ?_
  refine T_region ?_
  refine S_ 6 rfl rfl rfl _ (y_move rfl rfl) ?_
  refine S_ 7 rfl rfl rfl _ (y_len_slice rfl rfl Tryd.underlying49) ?_
  refine S_ 8 rfl rfl rfl _ (y_move rfl rfl) ?_
  refine S_ 9 rfl rfl rfl _ (y_len_slice rfl rfl Tryd.underlying49) ?_
  refine S_ 10 rfl rfl rfl _ (y_bin rfl rfl rfl (fun _ => b_neq)) ?_
  refine S_go (fun _ _ h => h) ?_
  refine T_cond rfl (fun h10 => ?_) (fun h10 => ?_)
  · try simp only [decide_eq_true_eq, decide_eq_false_iff_not, Bool.or_eq_true, Bool.or_eq_false_iff, Bool.and_eq_true, Bool.and_eq_false_iff, Bool.not_eq_true', Bool.not_eq_false', Bool.not_eq_true, Bool.not_eq_false, Bool.not_true, Bool.not_false, Int.not_lt, Int.not_le, not_or, not_and, Classical.not_not] at h10
    refine T_seq ?_
    refine T_region ?_
    refine S_ 4 rfl rfl rfl _ (y_assign rfl rfl) ?_
    refine S_go (fun _ _ h => h) ?_
    refine T_ret (fun a w hF hM => hRb a w (post1 rfl rfl (fun w hM => ?_) a w hF hM))
    exact ⟨by rw [eqLB_len l m (by omega)], hM.below⟩
  · try simp only [decide_eq_true_eq, decide_eq_false_iff_not, Bool.or_eq_true, Bool.or_eq_false_iff, Bool.and_eq_true, Bool.and_eq_false_iff, Bool.not_eq_true', Bool.not_eq_false', Bool.not_eq_true, Bool.not_eq_false, Bool.not_true, Bool.not_false, Int.not_lt, Int.not_le, not_or, not_and, Classical.not_not] at h10
    refine T_skip_go (fun _ _ h => h) ?_
    refine T_seq ?_
    refine T_seq ?_
    refine T_region ?_
    refine S_ 11 rfl rfl rfl _ (y_move rfl rfl) ?_
    refine S_ 12 rfl rfl rfl _ (y_len_slice rfl rfl Tryd.underlying49) ?_
    refine S_ 13 rfl rfl rfl _ (y_move rfl rfl) ?_
    refine S_go (fun _ _ h => h) ?_
    refine T_block ?_
    refine T_loopK1 (kf := [(4, 5), (13, 25)]) (kl := [(4, 5), (13, 25)]) (fun (i : Nat) => [(13, true, .int .i64 (i : Int))]) (fun (i : Nat) => []) (fun (i : Nat) => i ≤ q ∧ eqLB STag.eqB l m = eqLB STag.eqB (l.drop i) (m.drop i)) (fun (i : Nat) => q - i) 0 (by repeat (first | exact kf_nil | (apply kf_in; focus rfl) | (apply kf_out; focus rfl))) (by repeat (first | exact kl_nil | exact kl_rest (by assumption) rfl | (apply kl_in; focus rfl) | (apply kl_out; focus rfl))) ?_ ?_ ?_ ?_
    · exact ⟨by omega, rfl⟩
    · exact ⟨rfl, trivial⟩
    · exact trivial
    rintro i ⟨hp1, hp2⟩
    refine T_seq ?_
    refine T_region ?_
    refine S_ 14 rfl rfl rfl _ (y_bin rfl rfl rfl (fun _ => b_lss)) ?_
    refine S_go (fun _ _ h => h) ?_
    refine T_seq ?_
    refine T_cond rfl (fun h14 => ?_) (fun h14 => ?_)
    · try simp only [decide_eq_true_eq, decide_eq_false_iff_not, Bool.or_eq_true, Bool.or_eq_false_iff, Bool.and_eq_true, Bool.and_eq_false_iff, Bool.not_eq_true', Bool.not_eq_false', Bool.not_eq_true, Bool.not_eq_false, Bool.not_true, Bool.not_false, Int.not_lt, Int.not_le, not_or, not_and, Classical.not_not] at h14
      obtain ⟨a, hx1, hx2⟩ := hl.at (i := i) (by omega)
      obtain ⟨b, hy1, hy2⟩ := hm.at (i := i) (by omega)
      refine T_skip_go (fun _ _ h => h) ?_
      refine T_seq ?_
      refine T_block ?_
      refine T_seq ?_
      refine T_region ?_
      refine S_ 15 rfl rfl rfl _ (y_move rfl rfl) ?_
      refine S_ 5 rfl rfl rfl _ (y_assign rfl rfl) ?_
      refine S_go (fun _ _ h => h) ?_
      refine T_seq ?_
      refine T_draws (by kernel_rfl) (by kernel_rfl) ?_
      refine D_ 16 rfl rfl rfl _ (y_move rfl rfl) ?_
      refine D_ 17 rfl rfl rfl _ (y_move rfl rfl) ?_
      refine D_ 18 rfl rfl rfl _ (y_indexAddr rfl rfl rfl Tryd.underlying49 sz128 (fun hg => hl.isSome (by omega)) (fun _ => by omega)) ?_
      refine D_ 19 rfl rfl rfl _ (y_loadT rfl rfl hl (fun _ => rfl) (fun _ => hx1) Tryd.underlying128 rfl sz128) ?_
      refine D_ 20 rfl rfl rfl _ (y_move rfl rfl) ?_
      refine D_ 21 rfl rfl rfl _ (y_move rfl rfl) ?_
      refine D_ 22 rfl rfl rfl _ (y_indexAddr rfl rfl rfl Tryd.underlying49 sz128 (fun hg => hm.isSome (by omega)) (fun _ => by omega)) ?_
      refine D_ 23 rfl rfl rfl _ (y_loadT rfl rfl hm (fun _ => rfl) (fun _ => hy1) Tryd.underlying128 rfl sz128) ?_
      refine D_ 24 rfl rfl rfl _ (y_as (v' := .bool (!(STag.eqB a b))) (by simp [STag.eqB, str]) (y_bin rfl rfl rfl (fun _ => b_neqA (rs := [_, _]) Tryd.underlying128 (by kernel_rfl) (by kernel_rfl) ⟨by decide, ⟨_, Tryd.underlying9, rfl, _, _, rfl, rfl, rfl⟩, by decide, ⟨_, Tryd.underlying9, rfl, _, _, rfl, rfl, rfl⟩, trivial⟩))) ?_
      refine D_go (fun _ _ h => h) ?_
      refine T_cond rfl (fun h24 => ?_) (fun h24 => ?_)
      · skip
        have h24e : STag.eqB a b = false := by simpa using h24
        refine T_seq ?_
        refine T_region ?_
        refine S_ 4 rfl rfl rfl _ (y_assign rfl rfl) ?_
        refine S_go (fun _ _ h => h) ?_
        refine T_ret (fun a w hF hM => hRb a w (post1 rfl rfl (fun w hM => ?_) a w hF hM))
        exact ⟨by rw [hp2, hx2, hy2, eqLB, h24e, Bool.false_and], hM.below⟩
      · skip
        have h24e : STag.eqB a b = true := by simpa using h24
        refine T_skip_go (fun _ _ h => h) ?_
        refine T_region ?_
        refine S_ 25 rfl rfl rfl _ (y_bin rfl rfl rfl (fun hg => b_add (by omega))) ?_
        refine S_ 13 rfl rfl rfl _ (y_move rfl rfl) ?_
        refine S_nil (nextK1 (kf := [(4, 5), (13, 25)]) (kl := [(4, 5), (13, 25)]) (i + 1) (by repeat (first | exact kf_nil | (apply kf_in; focus rfl) | (apply kf_out; focus rfl))) (by repeat (first | exact kl_nil | exact kl_rest (by assumption) rfl | (apply kl_in; focus rfl) | (apply kl_out; focus rfl))) ?_ ?_ ?_ ?_)
        · omega
        · exact ⟨by omega, by rw [hp2, hx2, hy2, eqLB, h24e, Bool.true_and]⟩
        · exact ⟨rfl, trivial⟩
        · exact trivial
    · try simp only [decide_eq_true_eq, decide_eq_false_iff_not, Bool.or_eq_true, Bool.or_eq_false_iff, Bool.and_eq_true, Bool.and_eq_false_iff, Bool.not_eq_true', Bool.not_eq_false', Bool.not_eq_true, Bool.not_eq_false, Bool.not_true, Bool.not_false, Int.not_lt, Int.not_le, not_or, not_and, Classical.not_not] at h14
      refine T_exit_go (fun _ _ h => h) ?_
      refine T_seq ?_
      refine T_region ?_
      refine S_ 4 rfl rfl rfl _ (y_assign rfl rfl) ?_
      refine S_go (fun _ _ h => h) ?_
      refine T_ret (fun a w hF hM => hRb a w (post1 rfl rfl (fun w hM => ?_) a w hF hM))
      exact ⟨by rw [hp2, hl.end (by omega), hm.end (by omega)]; rfl, hM.below⟩
theorem EqualCr_any (A B : Option Addr) (q c p d : Nat) (l m : List (SCrumb)) (w : World) (hl : SlT SCrumb.enc 3 w A q l) (hm : SlT SCrumb.enc 3 w B p m) (hq : q ≤ 4611686018427387904) (hp : p ≤ 4611686018427387904) :
    Calls Tryd.prog 101 #[.slice A q c, .slice B p d] w fun e w' => e = .returned (.bool (eqLB SCrumb.eqB l m)) ∧ Below w.heap.size w w' := by
  have hlen := hl.len
  have hmen := hm.len
  refine enter_args (args := [.slice A q c, .slice B p d]) (F := _) Tryd.func101 rfl Tryd.ntmps101 rfl rfl ?_
  intro Rb hRb hRn
  refine T_seq ?_
  refine T_region ?_
  refine S_ 4 rfl rfl rfl _ (y_assign rfl rfl) ?_
  refine S_go (fun _ _ h => h) ?_
  refine T_seq ?_
  refine T_seq ?_
  refine T_region ?_
  refine S_ 6 rfl rfl rfl _ (y_move rfl rfl) ?_
  refine S_ 7 rfl rfl rfl _ (y_len_slice rfl rfl Tryd.underlying50) ?_
  refine S_ 8 rfl rfl rfl _ (y_move rfl rfl) ?_
  refine S_ 9 rfl rfl rfl _ (y_len_slice rfl rfl Tryd.underlying50) ?_
  refine S_ 10 rfl rfl rfl _ (y_bin rfl rfl rfl (fun _ => b_neq)) ?_
  refine S_go (fun _ _ h => h) ?_
  refine T_cond rfl (fun h10 => ?_) (fun h10 => ?_)
  · try simp only [decide_eq_true_eq, decide_eq_false_iff_not, Bool.or_eq_true, Bool.or_eq_false_iff, Bool.and_eq_true, Bool.and_eq_false_iff, Bool.not_eq_true', Bool.not_eq_false', Bool.not_eq_true, Bool.not_eq_false, Bool.not_true, Bool.not_false, Int.not_lt, Int.not_le, not_or, not_and, Classical.not_not] at h10
    refine T_seq ?_
    refine T_region ?_
    refine S_ 4 rfl rfl rfl _ (y_assign rfl rfl) ?_
    refine S_go (fun _ _ h => h) ?_
    refine T_ret (fun a w hF hM => hRb a w (post1 rfl rfl (fun w hM => ?_) a w hF hM))
    exact ⟨by rw [eqLB_len l m (by omega)], hM.below⟩
  · try simp only [decide_eq_true_eq, decide_eq_false_iff_not, Bool.or_eq_true, Bool.or_eq_false_iff, Bool.and_eq_true, Bool.and_eq_false_iff, Bool.not_eq_true', Bool.not_eq_false', Bool.not_eq_true, Bool.not_eq_false, Bool.not_true, Bool.not_false, Int.not_lt, Int.not_le, not_or, not_and, Classical.not_not] at h10
    refine T_skip_go (fun _ _ h => h) ?_
    refine T_seq ?_
    refine T_seq ?_
    refine T_region ?_
    refine S_ 11 rfl rfl rfl _ (y_move rfl rfl) ?_
    refine S_ 12 rfl rfl rfl _ (y_len_slice rfl rfl Tryd.underlying50) ?_
    refine S_ 13 rfl rfl rfl _ (y_move rfl rfl) ?_
    refine S_go (fun _ _ h => h) ?_
    refine T_block ?_
    refine T_loopK1 (kf := [(4, 5), (13, 25)]) (kl := [(4, 5), (13, 25)]) (fun (i : Nat) => [(13, true, .int .i64 (i : Int))]) (fun (i : Nat) => []) (fun (i : Nat) => i ≤ q ∧ eqLB SCrumb.eqB l m = eqLB SCrumb.eqB (l.drop i) (m.drop i)) (fun (i : Nat) => q - i) 0 (by repeat (first | exact kf_nil | (apply kf_in; focus rfl) | (apply kf_out; focus rfl))) (by repeat (first | exact kl_nil | exact kl_rest (by assumption) rfl | (apply kl_in; focus rfl) | (apply kl_out; focus rfl))) ?_ ?_ ?_ ?_
    · exact ⟨by omega, rfl⟩
    · exact ⟨rfl, trivial⟩
    · exact trivial
    rintro i ⟨hp1, hp2⟩
    refine T_seq ?_
    refine T_region ?_
    refine S_ 14 rfl rfl rfl _ (y_bin rfl rfl rfl (fun _ => b_lss)) ?_
    refine S_go (fun _ _ h => h) ?_
    refine T_seq ?_
    refine T_cond rfl (fun h14 => ?_) (fun h14 => ?_)
    · try simp only [decide_eq_true_eq, decide_eq_false_iff_not, Bool.or_eq_true, Bool.or_eq_false_iff, Bool.and_eq_true, Bool.and_eq_false_iff, Bool.not_eq_true', Bool.not_eq_false', Bool.not_eq_true, Bool.not_eq_false, Bool.not_true, Bool.not_false, Int.not_lt, Int.not_le, not_or, not_and, Classical.not_not] at h14
      obtain ⟨a, hx1, hx2⟩ := hl.at (i := i) (by omega)
      obtain ⟨b, hy1, hy2⟩ := hm.at (i := i) (by omega)
      refine T_skip_go (fun _ _ h => h) ?_
      refine T_seq ?_
      refine T_block ?_
      refine T_seq ?_
      refine T_region ?_
      refine S_ 15 rfl rfl rfl _ (y_move rfl rfl) ?_
      refine S_ 5 rfl rfl rfl _ (y_assign rfl rfl) ?_
      refine S_go (fun _ _ h => h) ?_
      refine T_seq ?_
      refine T_draws (by kernel_rfl) (by kernel_rfl) ?_
      refine D_ 16 rfl rfl rfl _ (y_move rfl rfl) ?_
      refine D_ 17 rfl rfl rfl _ (y_move rfl rfl) ?_
      refine D_ 18 rfl rfl rfl _ (y_indexAddr rfl rfl rfl Tryd.underlying50 sz78 (fun hg => hl.isSome (by omega)) (fun _ => by omega)) ?_
      refine D_ 19 rfl rfl rfl _ (y_loadT rfl rfl hl (fun _ => rfl) (fun _ => hx1) Tryd.underlying78 rfl sz78) ?_
      refine D_ 20 rfl rfl rfl _ (y_move rfl rfl) ?_
      refine D_ 21 rfl rfl rfl _ (y_move rfl rfl) ?_
      refine D_ 22 rfl rfl rfl _ (y_indexAddr rfl rfl rfl Tryd.underlying50 sz78 (fun hg => hm.isSome (by omega)) (fun _ => by omega)) ?_
      refine D_ 23 rfl rfl rfl _ (y_loadT rfl rfl hm (fun _ => rfl) (fun _ => hy1) Tryd.underlying78 rfl sz78) ?_
      refine D_ 24 rfl rfl rfl _ (y_as (v' := .bool (!(SCrumb.eqB a b))) (by simp [SCrumb.eqB, str]) (y_bin rfl rfl rfl (fun _ => b_neqA (rs := [_, _, _]) Tryd.underlying78 (by kernel_rfl) (by kernel_rfl) ⟨by decide, ⟨_, Tryd.underlying3, rfl, _, _, rfl, rfl, rfl⟩, by decide, ⟨_, Tryd.underlying9, rfl, _, _, rfl, rfl, rfl⟩, by decide, ⟨_, Tryd.underlying9, rfl, _, _, rfl, rfl, rfl⟩, trivial⟩))) ?_
      refine D_go (fun _ _ h => h) ?_
      refine T_cond rfl (fun h24 => ?_) (fun h24 => ?_)
      · skip
        have h24e : SCrumb.eqB a b = false := by simpa using h24
        refine T_seq ?_
        refine T_region ?_
        refine S_ 4 rfl rfl rfl _ (y_assign rfl rfl) ?_
        refine S_go (fun _ _ h => h) ?_
        refine T_ret (fun a w hF hM => hRb a w (post1 rfl rfl (fun w hM => ?_) a w hF hM))
        exact ⟨by rw [hp2, hx2, hy2, eqLB, h24e, Bool.false_and], hM.below⟩
      · skip
        have h24e : SCrumb.eqB a b = true := by simpa using h24
        refine T_skip_go (fun _ _ h => h) ?_
        refine T_region ?_
        refine S_ 25 rfl rfl rfl _ (y_bin rfl rfl rfl (fun hg => b_add (by omega))) ?_
        refine S_ 13 rfl rfl rfl _ (y_move rfl rfl) ?_
        refine S_nil (nextK1 (kf := [(4, 5), (13, 25)]) (kl := [(4, 5), (13, 25)]) (i + 1) (by repeat (first | exact kf_nil | (apply kf_in; focus rfl) | (apply kf_out; focus rfl))) (by repeat (first | exact kl_nil | exact kl_rest (by assumption) rfl | (apply kl_in; focus rfl) | (apply kl_out; focus rfl))) ?_ ?_ ?_ ?_)
        · omega
        · exact ⟨by omega, by rw [hp2, hx2, hy2, eqLB, h24e, Bool.true_and]⟩
        · exact ⟨rfl, trivial⟩
        · exact trivial
    · try simp only [decide_eq_true_eq, decide_eq_false_iff_not, Bool.or_eq_true, Bool.or_eq_false_iff, Bool.and_eq_true, Bool.and_eq_false_iff, Bool.not_eq_true', Bool.not_eq_false', Bool.not_eq_true, Bool.not_eq_false, Bool.not_true, Bool.not_false, Int.not_lt, Int.not_le, not_or, not_and, Classical.not_not] at h14
      refine T_exit_go (fun _ _ h => h) ?_
      refine T_seq ?_
      refine T_region ?_
      refine S_ 4 rfl rfl rfl _ (y_assign rfl rfl) ?_
      refine S_go (fun _ _ h => h) ?_
      refine T_ret (fun a w hF hM => hRb a w (post1 rfl rfl (fun w hM => ?_) a w hF hM))
      exact ⟨by rw [hp2, hl.end (by omega), hm.end (by omega)]; rfl, hM.below⟩
theorem EqualS_any (A B : Option Addr) (q c p d : Nat) (l m : List (List UInt8)) (w : World) (hl : SlT strE 1 w A q l) (hm : SlT strE 1 w B p m) (hq : q ≤ 4611686018427387904) (hp : p ≤ 4611686018427387904) :
    Calls Tryd.prog 26 #[.slice A q c, .slice B p d] w fun e w' => e = .returned (.bool (eqLB sEq l m)) ∧ Below w.heap.size w w' := by
  have hlen := hl.len
  have hmen := hm.len
  refine enter_args (args := [.slice A q c, .slice B p d]) (F := _) Tryd.func26 rfl Tryd.ntmps26 rfl rfl ?_
  intro Rb hRb hRn
  refine T_seq ?_
  refine T_region ?_
  refine S_ 4 rfl rfl rfl _ (y_assign rfl rfl) ?_
  refine S_go (fun _ _ h => h) ?_
  refine T_seq ?_
  refine T_seq ?_
  refine T_region ?_
  refine S_ 6 rfl rfl rfl _ (y_move rfl rfl) ?_
  refine S_ 7 rfl rfl rfl _ (y_len_slice rfl rfl Tryd.underlying25) ?_
  refine S_ 8 rfl rfl rfl _ (y_move rfl rfl) ?_
  refine S_ 9 rfl rfl rfl _ (y_len_slice rfl rfl Tryd.underlying25) ?_
  refine S_ 10 rfl rfl rfl _ (y_bin rfl rfl rfl (fun _ => b_neq)) ?_
  refine S_go (fun _ _ h => h) ?_
  refine T_cond rfl (fun h10 => ?_) (fun h10 => ?_)
  · try simp only [decide_eq_true_eq, decide_eq_false_iff_not, Bool.or_eq_true, Bool.or_eq_false_iff, Bool.and_eq_true, Bool.and_eq_false_iff, Bool.not_eq_true', Bool.not_eq_false', Bool.not_eq_true, Bool.not_eq_false, Bool.not_true, Bool.not_false, Int.not_lt, Int.not_le, not_or, not_and, Classical.not_not] at h10
    refine T_seq ?_
    refine T_region ?_
    refine S_ 4 rfl rfl rfl _ (y_assign rfl rfl) ?_
    refine S_go (fun _ _ h => h) ?_
    refine T_ret (fun a w hF hM => hRb a w (post1 rfl rfl (fun w hM => ?_) a w hF hM))
    exact ⟨by rw [eqLB_len l m (by omega)], hM.below⟩
  · try simp only [decide_eq_true_eq, decide_eq_false_iff_not, Bool.or_eq_true, Bool.or_eq_false_iff, Bool.and_eq_true, Bool.and_eq_false_iff, Bool.not_eq_true', Bool.not_eq_false', Bool.not_eq_true, Bool.not_eq_false, Bool.not_true, Bool.not_false, Int.not_lt, Int.not_le, not_or, not_and, Classical.not_not] at h10
    refine T_skip_go (fun _ _ h => h) ?_
    refine T_seq ?_
    refine T_seq ?_
    refine T_region ?_
    refine S_ 11 rfl rfl rfl _ (y_move rfl rfl) ?_
    refine S_ 12 rfl rfl rfl _ (y_len_slice rfl rfl Tryd.underlying25) ?_
    refine S_ 13 rfl rfl rfl _ (y_move rfl rfl) ?_
    refine S_go (fun _ _ h => h) ?_
    refine T_block ?_
    refine T_loopK1 (kf := [(4, 5), (13, 25)]) (kl := [(4, 5), (13, 25)]) (fun (i : Nat) => [(13, true, .int .i64 (i : Int))]) (fun (i : Nat) => []) (fun (i : Nat) => i ≤ q ∧ eqLB sEq l m = eqLB sEq (l.drop i) (m.drop i)) (fun (i : Nat) => q - i) 0 (by repeat (first | exact kf_nil | (apply kf_in; focus rfl) | (apply kf_out; focus rfl))) (by repeat (first | exact kl_nil | exact kl_rest (by assumption) rfl | (apply kl_in; focus rfl) | (apply kl_out; focus rfl))) ?_ ?_ ?_ ?_
    · exact ⟨by omega, rfl⟩
    · exact ⟨rfl, trivial⟩
    · exact trivial
    rintro i ⟨hp1, hp2⟩
    refine T_seq ?_
    refine T_region ?_
    refine S_ 14 rfl rfl rfl _ (y_bin rfl rfl rfl (fun _ => b_lss)) ?_
    refine S_go (fun _ _ h => h) ?_
    refine T_seq ?_
    refine T_cond rfl (fun h14 => ?_) (fun h14 => ?_)
    · try simp only [decide_eq_true_eq, decide_eq_false_iff_not, Bool.or_eq_true, Bool.or_eq_false_iff, Bool.and_eq_true, Bool.and_eq_false_iff, Bool.not_eq_true', Bool.not_eq_false', Bool.not_eq_true, Bool.not_eq_false, Bool.not_true, Bool.not_false, Int.not_lt, Int.not_le, not_or, not_and, Classical.not_not] at h14
      obtain ⟨a, hx1, hx2⟩ := hl.at (i := i) (by omega)
      obtain ⟨b, hy1, hy2⟩ := hm.at (i := i) (by omega)
      refine T_skip_go (fun _ _ h => h) ?_
      refine T_seq ?_
      refine T_block ?_
      refine T_seq ?_
      refine T_region ?_
      refine S_ 15 rfl rfl rfl _ (y_move rfl rfl) ?_
      refine S_ 5 rfl rfl rfl _ (y_assign rfl rfl) ?_
      refine S_go (fun _ _ h => h) ?_
      refine T_seq ?_
      refine T_draws (by kernel_rfl) (by kernel_rfl) ?_
      refine D_ 16 rfl rfl rfl _ (y_move rfl rfl) ?_
      refine D_ 17 rfl rfl rfl _ (y_move rfl rfl) ?_
      refine D_ 18 rfl rfl rfl _ (y_indexAddr rfl rfl rfl Tryd.underlying25 sz9 (fun hg => hl.isSome (by omega)) (fun _ => by omega)) ?_
      refine D_ 19 rfl rfl rfl _ (y_loadT1 (val := (fun l : List UInt8 => str l)) rfl rfl hl (fun _ => hx1) Tryd.underlying9 rfl) ?_
      refine D_ 20 rfl rfl rfl _ (y_move rfl rfl) ?_
      refine D_ 21 rfl rfl rfl _ (y_move rfl rfl) ?_
      refine D_ 22 rfl rfl rfl _ (y_indexAddr rfl rfl rfl Tryd.underlying25 sz9 (fun hg => hm.isSome (by omega)) (fun _ => by omega)) ?_
      refine D_ 23 rfl rfl rfl _ (y_loadT1 (val := (fun l : List UInt8 => str l)) rfl rfl hm (fun _ => hy1) Tryd.underlying9 rfl) ?_
      refine D_ 24 rfl rfl rfl _ (y_as (v' := .bool (!(sEq a b))) (by rw [show (decide (a = b)) = sEq a b from rfl]) (y_bin rfl rfl rfl (fun _ => b_neqs))) ?_
      refine D_go (fun _ _ h => h) ?_
      refine T_cond rfl (fun h24 => ?_) (fun h24 => ?_)
      · skip
        have h24e : sEq a b = false := by simpa using h24
        refine T_seq ?_
        refine T_region ?_
        refine S_ 4 rfl rfl rfl _ (y_assign rfl rfl) ?_
        refine S_go (fun _ _ h => h) ?_
        refine T_ret (fun a w hF hM => hRb a w (post1 rfl rfl (fun w hM => ?_) a w hF hM))
        exact ⟨by rw [hp2, hx2, hy2, eqLB, h24e, Bool.false_and], hM.below⟩
      · skip
        have h24e : sEq a b = true := by simpa using h24
        refine T_skip_go (fun _ _ h => h) ?_
        refine T_region ?_
        refine S_ 25 rfl rfl rfl _ (y_bin rfl rfl rfl (fun hg => b_add (by omega))) ?_
        refine S_ 13 rfl rfl rfl _ (y_move rfl rfl) ?_
        refine S_nil (nextK1 (kf := [(4, 5), (13, 25)]) (kl := [(4, 5), (13, 25)]) (i + 1) (by repeat (first | exact kf_nil | (apply kf_in; focus rfl) | (apply kf_out; focus rfl))) (by repeat (first | exact kl_nil | exact kl_rest (by assumption) rfl | (apply kl_in; focus rfl) | (apply kl_out; focus rfl))) ?_ ?_ ?_ ?_)
        · omega
        · exact ⟨by omega, by rw [hp2, hx2, hy2, eqLB, h24e, Bool.true_and]⟩
        · exact ⟨rfl, trivial⟩
        · exact trivial
    · try simp only [decide_eq_true_eq, decide_eq_false_iff_not, Bool.or_eq_true, Bool.or_eq_false_iff, Bool.and_eq_true, Bool.and_eq_false_iff, Bool.not_eq_true', Bool.not_eq_false', Bool.not_eq_true, Bool.not_eq_false, Bool.not_true, Bool.not_false, Int.not_lt, Int.not_le, not_or, not_and, Classical.not_not] at h14
      refine T_exit_go (fun _ _ h => h) ?_
      refine T_seq ?_
      refine T_region ?_
      refine S_ 4 rfl rfl rfl _ (y_assign rfl rfl) ?_
      refine S_go (fun _ _ h => h) ?_
      refine T_ret (fun a w hF hM => hRb a w (post1 rfl rfl (fun w hM => ?_) a w hF hM))
      exact ⟨by rw [hp2, hl.end (by omega), hm.end (by omega)]; rfl, hM.below⟩
def Flt.eqB (x y : Flt) : Bool := decide (x.k = y.k) && decide (x.t = y.t) && eqLB Frm.eqB x.fr.l y.fr.l
theorem sameFlt_any (x y : Flt) (w : World) (hx : FltOk w x) (hy : FltOk w y) :
    Calls Tryd.prog 181 #[x.val, y.val] w fun e w' => e = .returned (.bool (Flt.eqB x y)) ∧ Below w.heap.size w w' := by
  have hxq := hx.fr.q
  have hyq := hy.fr.q
  refine enter_args (args := [.agg #[str x.k, str x.t, .slice x.fr.A x.fr.q x.fr.c], .agg #[str y.k, str y.t, .slice y.fr.A y.fr.q y.fr.c]]) (F := _) Tryd.func181 rfl Tryd.ntmps181 rfl rfl ?_
  intro Rb hRb hRn
  refine T_seq ?_
  refine T_region ?_
  refine S_box 2 2 rfl rfl rfl rfl rfl ?_
  intro b2
  refine S_box 3 3 rfl rfl rfl rfl rfl ?_
  intro b3
  refine S_ 4 rfl rfl rfl _ (y_assign rfl rfl) ?_
  refine S_go (fun _ _ h => h) ?_
  refine T_seq ?_
  refine T_region ?_
  refine S_ 5 rfl rfl rfl _ (y_fieldAddr rfl rfl fa70_0) ?_
  refine S_ 6 rfl rfl rfl _ (y_load 2 rfl rfl rfl rfl Tryd.underlying9 rfl) ?_
  refine S_ 7 rfl rfl rfl _ (y_fieldAddr rfl rfl fa70_0) ?_
  refine S_ 8 rfl rfl rfl _ (y_load 3 rfl rfl rfl rfl Tryd.underlying9 rfl) ?_
  refine S_ 9 rfl rfl rfl _ (y_bin rfl rfl rfl (fun _ => b_eqls)) ?_
  refine S_ 10 rfl rfl rfl _ (y_move rfl rfl) ?_
  refine Sg_ 11 rfl rfl rfl rfl rfl rfl _ (y_fieldAddr rfl rfl fa70_1) ?_
  refine Sg_ 12 rfl rfl rfl rfl rfl rfl _ (y_load 2 rfl rfl rfl rfl Tryd.underlying9 rfl) ?_
  refine Sg_ 13 rfl rfl rfl rfl rfl rfl _ (y_fieldAddr rfl rfl fa70_1) ?_
  refine Sg_ 14 rfl rfl rfl rfl rfl rfl _ (y_load 3 rfl rfl rfl rfl Tryd.underlying9 rfl) ?_
  refine Sg_ 15 rfl rfl rfl rfl rfl rfl _ (y_bin rfl rfl rfl (fun _ => b_eqls)) ?_
  refine S_ 16 rfl rfl rfl _ (y_and rfl rfl rfl) ?_
  refine S_ 17 rfl rfl rfl _ (y_move rfl rfl) ?_
  refine Sg_ 18 rfl rfl rfl rfl rfl rfl _ (y_fieldAddr rfl rfl fa70_2) ?_
  refine Sg_ 19 rfl rfl rfl rfl rfl rfl _ (y_load 2 rfl rfl rfl rfl Tryd.underlying68 rfl) ?_
  refine Sg_ 20 rfl rfl rfl rfl rfl rfl _ (y_fieldAddr rfl rfl fa70_2) ?_
  refine Sg_ 21 rfl rfl rfl rfl rfl rfl _ (y_load 3 rfl rfl rfl rfl Tryd.underlying68 rfl) ?_
  refine Sg_ 22 rfl rfl rfl rfl rfl rfl _ (y_call rfl rfl rfl cf182 (fun _ w hM => EqualFr_any _ _ _ _ _ _ _ _ w (hx.fr.ok.t.below hM.below) (hy.fr.ok.t.below hM.below) hxq hyq)) ?_
  refine S_ 23 rfl rfl rfl _ (y_and rfl rfl rfl) ?_
  refine S_ 4 rfl rfl rfl _ (y_assign rfl rfl) ?_
  refine S_go (fun _ _ h => h) ?_
  refine T_ret (fun a w hF hM => hRb a w (post1 rfl rfl (fun w hM => ?_) a w hF hM))
  exact ⟨rfl, hM.below⟩
theorem SameFault_any (x y : Flt) (w : World) (hx : FltOk w x) (hy : FltOk w y) :
    Calls Tryd.prog 103 #[x.val, y.val] w fun e w' => e = .returned (.bool (Flt.eqB x y)) ∧ Below w.heap.size w w' := by
  have hxq := hx.fr.q
  have hyq := hy.fr.q
  refine enter_args (args := [.agg #[str x.k, str x.t, .slice x.fr.A x.fr.q x.fr.c], .agg #[str y.k, str y.t, .slice y.fr.A y.fr.q y.fr.c]]) (F := _) Tryd.func103 rfl Tryd.ntmps103 rfl rfl ?_
  intro Rb hRb hRn
  refine T_seq ?_
  refine T_region ?_
  refine S_box 2 2 rfl rfl rfl rfl rfl ?_
  intro b2
  refine S_box 3 3 rfl rfl rfl rfl rfl ?_
  intro b3
  refine S_ 4 rfl rfl rfl _ (y_assign rfl rfl) ?_
  refine S_go (fun _ _ h => h) ?_
  refine T_seq ?_
  refine T_region ?_
  refine S_ 5 rfl rfl rfl _ (y_fieldAddr rfl rfl fa70_0) ?_
  refine S_ 6 rfl rfl rfl _ (y_load 2 rfl rfl rfl rfl Tryd.underlying9 rfl) ?_
  refine S_ 7 rfl rfl rfl _ (y_fieldAddr rfl rfl fa70_0) ?_
  refine S_ 8 rfl rfl rfl _ (y_load 3 rfl rfl rfl rfl Tryd.underlying9 rfl) ?_
  refine S_ 9 rfl rfl rfl _ (y_bin rfl rfl rfl (fun _ => b_eqls)) ?_
  refine S_ 10 rfl rfl rfl _ (y_move rfl rfl) ?_
  refine Sg_ 11 rfl rfl rfl rfl rfl rfl _ (y_fieldAddr rfl rfl fa70_1) ?_
  refine Sg_ 12 rfl rfl rfl rfl rfl rfl _ (y_load 2 rfl rfl rfl rfl Tryd.underlying9 rfl) ?_
  refine Sg_ 13 rfl rfl rfl rfl rfl rfl _ (y_fieldAddr rfl rfl fa70_1) ?_
  refine Sg_ 14 rfl rfl rfl rfl rfl rfl _ (y_load 3 rfl rfl rfl rfl Tryd.underlying9 rfl) ?_
  refine Sg_ 15 rfl rfl rfl rfl rfl rfl _ (y_bin rfl rfl rfl (fun _ => b_eqls)) ?_
  refine S_ 16 rfl rfl rfl _ (y_and rfl rfl rfl) ?_
  refine S_ 17 rfl rfl rfl _ (y_move rfl rfl) ?_
  refine Sg_ 18 rfl rfl rfl rfl rfl rfl _ (y_fieldAddr rfl rfl fa70_2) ?_
  refine Sg_ 19 rfl rfl rfl rfl rfl rfl _ (y_load 2 rfl rfl rfl rfl Tryd.underlying68 rfl) ?_
  refine Sg_ 20 rfl rfl rfl rfl rfl rfl _ (y_fieldAddr rfl rfl fa70_2) ?_
  refine Sg_ 21 rfl rfl rfl rfl rfl rfl _ (y_load 3 rfl rfl rfl rfl Tryd.underlying68 rfl) ?_
  refine Sg_ 22 rfl rfl rfl rfl rfl rfl _ (y_call rfl rfl rfl cf182 (fun _ w hM => EqualFr_any _ _ _ _ _ _ _ _ w (hx.fr.ok.t.below hM.below) (hy.fr.ok.t.below hM.below) hxq hyq)) ?_
  refine S_ 23 rfl rfl rfl _ (y_and rfl rfl rfl) ?_
  refine S_ 4 rfl rfl rfl _ (y_assign rfl rfl) ?_
  refine S_go (fun _ _ h => h) ?_
  refine T_ret (fun a w hF hM => hRb a w (post1 rfl rfl (fun w hM => ?_) a w hF hM))
  exact ⟨rfl, hM.below⟩
theorem EqualFuncFlt_any (l m : Sl Flt) (g : FuncId) (cap : Array Value) (w : World) (hl : FltsOk w l) (hm : FltsOk w m) (hcf : ∀ args w, (callFunc g args).run Tryd.prog w = .ok (.enter g args) w)
    (hA : ∀ x y w', Below w.heap.size w w' → FltOk w' x → FltOk w' y → Calls Tryd.prog g (#[x.val, y.val] ++ cap) w' fun e w'' => e = .returned (.bool (Flt.eqB x y)) ∧ Below w'.heap.size w' w'') :
    Calls Tryd.prog 102 #[.slice l.A l.q l.c, .slice m.A m.q m.c, .func (.func g) #[] cap] w fun e w' => e = .returned (.bool (eqLB Flt.eqB l.l m.l)) ∧ Below w.heap.size w w' := by
  have ht := hl.ok.t
  have hu := hm.ok.t
  have hq := hl.q
  have hp := hm.q
  have hlen := ht.len
  have hmen := hu.len
  refine enter_args (args := [.slice l.A l.q l.c, .slice m.A m.q m.c, .func (.func g) #[] cap]) (F := _) Tryd.func102 rfl Tryd.ntmps102 rfl rfl ?_
  intro Rb hRb hRn
  refine T_seq ?_
  refine T_region ?_
  refine S_ 6 rfl rfl rfl _ (y_assign rfl rfl) ?_
  refine S_go (fun _ _ h => h) ?_
  refine T_seq ?_
  refine T_seq ?_
  refine T_region ?_
  refine S_ 10 rfl rfl rfl _ (y_move rfl rfl) ?_
  refine S_ 11 rfl rfl rfl _ (y_len_slice rfl rfl Tryd.underlying48) ?_
  refine S_ 12 rfl rfl rfl _ (y_move rfl rfl) ?_
  refine S_ 13 rfl rfl rfl _ (y_len_slice rfl rfl Tryd.underlying48) ?_
  refine S_ 14 rfl rfl rfl _ (y_bin rfl rfl rfl (fun _ => b_neq)) ?_
  refine S_go (fun _ _ h => h) ?_
  refine T_cond rfl (fun h14 => ?_) (fun h14 => ?_)
  · try simp only [decide_eq_true_eq, decide_eq_false_iff_not, Bool.or_eq_true, Bool.or_eq_false_iff, Bool.and_eq_true, Bool.and_eq_false_iff, Bool.not_eq_true', Bool.not_eq_false', Bool.not_eq_true, Bool.not_eq_false, Bool.not_true, Bool.not_false, Int.not_lt, Int.not_le, not_or, not_and, Classical.not_not] at h14
    refine T_seq ?_
    refine T_region ?_
    refine S_ 6 rfl rfl rfl _ (y_assign rfl rfl) ?_
    refine S_go (fun _ _ h => h) ?_
    refine T_ret (fun a w hF hM => hRb a w (post1 rfl rfl (fun w hM => ?_) a w hF hM))
    exact ⟨by rw [eqLB_len l.l m.l (by omega)], hM.below⟩
  · try simp only [decide_eq_true_eq, decide_eq_false_iff_not, Bool.or_eq_true, Bool.or_eq_false_iff, Bool.and_eq_true, Bool.and_eq_false_iff, Bool.not_eq_true', Bool.not_eq_false', Bool.not_eq_true, Bool.not_eq_false, Bool.not_true, Bool.not_false, Int.not_lt, Int.not_le, not_or, not_and, Classical.not_not] at h14
    refine T_skip_go (fun _ _ h => h) ?_
    refine T_seq ?_
    refine T_seq ?_
    refine T_region ?_
    refine S_ 15 rfl rfl rfl _ (y_move rfl rfl) ?_
    refine S_ 16 rfl rfl rfl _ (y_len_slice rfl rfl Tryd.underlying48) ?_
    refine S_ 17 rfl rfl rfl _ (y_move rfl rfl) ?_
    refine S_go (fun _ _ h => h) ?_
    refine T_block ?_
    refine T_loopK1 (kf := [(6, 9), (17, 31)]) (kl := [(6, 9), (17, 31)]) (fun (i : Nat) => [(17, true, .int .i64 (i : Int))]) (fun (i : Nat) => []) (fun (i : Nat) => i ≤ l.q ∧ eqLB Flt.eqB l.l m.l = eqLB Flt.eqB (l.l.drop i) (m.l.drop i)) (fun (i : Nat) => l.q - i) 0 (by repeat (first | exact kf_nil | (apply kf_in; focus rfl) | (apply kf_out; focus rfl))) (by repeat (first | exact kl_nil | exact kl_rest (by assumption) rfl | (apply kl_in; focus rfl) | (apply kl_out; focus rfl))) ?_ ?_ ?_ ?_
    · exact ⟨by omega, rfl⟩
    · exact ⟨rfl, trivial⟩
    · exact trivial
    rintro i ⟨hp1, hp2⟩
    refine T_seq ?_
    refine T_region ?_
    refine S_ 18 rfl rfl rfl _ (y_bin rfl rfl rfl (fun _ => b_lss)) ?_
    refine S_go (fun _ _ h => h) ?_
    refine T_seq ?_
    refine T_cond rfl (fun h18 => ?_) (fun h18 => ?_)
    · try simp only [decide_eq_true_eq, decide_eq_false_iff_not, Bool.or_eq_true, Bool.or_eq_false_iff, Bool.and_eq_true, Bool.and_eq_false_iff, Bool.not_eq_true', Bool.not_eq_false', Bool.not_eq_true, Bool.not_eq_false, Bool.not_true, Bool.not_false, Int.not_lt, Int.not_le, not_or, not_and, Classical.not_not] at h18
      obtain ⟨x, hx1, hx2⟩ := ht.at (i := i) (by omega)
      obtain ⟨y, hy1, hy2⟩ := hu.at (i := i) (by omega)
      refine T_skip_go (fun _ _ h => h) ?_
      refine T_seq ?_
      refine T_block ?_
      refine T_seq ?_
      refine T_region ?_
      refine S_ 19 rfl rfl rfl _ (y_move rfl rfl) ?_
      refine S_ 20 rfl rfl rfl _ (y_indexAddr rfl rfl rfl Tryd.underlying48 sz70 (fun hg => ht.isSome (by omega)) (fun _ => by omega)) ?_
      refine S_ 21 rfl rfl rfl _ (y_loadT rfl rfl ht (fun _ => rfl) (fun _ => hx1) Tryd.underlying70 rfl sz70) ?_
      refine S_alloc 8 8 rfl rfl rfl rfl z70 ?_
      intro b8
      refine S_ 7 rfl rfl rfl _ (y_assign rfl rfl) ?_
      refine S_store 8 rfl rfl rfl rfl rfl rfl sz70 rfl rfl ?_
      refine S_go (fun _ _ h => h) ?_
      refine T_seq ?_
      refine T_region ?_
      refine S_ 22 rfl rfl rfl _ (y_move rfl rfl) ?_
      refine S_ 23 rfl rfl rfl _ (y_move rfl rfl) ?_
      refine S_ 24 rfl rfl rfl _ (y_indexAddr rfl rfl rfl Tryd.underlying48 sz70 (fun hg => hu.isSome (by omega)) (fun _ => by omega)) ?_
      refine S_ 25 rfl rfl rfl _ (y_loadT rfl rfl hu (fun _ => rfl) (fun _ => hy1) Tryd.underlying70 rfl sz70) ?_
      refine S_alloc 9 9 rfl rfl rfl rfl z70 ?_
      intro b9
      refine S_store 9 rfl rfl rfl rfl rfl rfl sz70 rfl rfl ?_
      refine S_go (fun _ _ h => h) ?_
      refine T_seq ?_
      refine T_region ?_
      refine S_ 26 rfl rfl rfl _ (y_move rfl rfl) ?_
      refine S_ 27 rfl rfl rfl _ (y_loadA 8 rfl rfl rfl Tryd.underlying70 rfl sz70) ?_
      refine S_ 28 rfl rfl rfl _ (y_loadA 9 rfl rfl rfl Tryd.underlying70 rfl sz70) ?_
      refine S_ 29 rfl rfl rfl _ (y_call rfl rfl rfl hcf (fun _ w hM => hA x y w hM.below ((hl.n x (mem_at hx1)).below hM.below) ((hm.n y (mem_at hy1)).below hM.below))) ?_
      refine S_ 30 rfl rfl rfl _ (y_not rfl rfl) ?_
      refine S_go (fun _ _ h => h) ?_
      refine T_cond rfl (fun h30 => ?_) (fun h30 => ?_)
      · try simp only [decide_eq_true_eq, decide_eq_false_iff_not, Bool.or_eq_true, Bool.or_eq_false_iff, Bool.and_eq_true, Bool.and_eq_false_iff, Bool.not_eq_true', Bool.not_eq_false', Bool.not_eq_true, Bool.not_eq_false, Bool.not_true, Bool.not_false, Int.not_lt, Int.not_le, not_or, not_and, Classical.not_not] at h30
        refine T_seq ?_
        refine T_region ?_
        refine S_ 6 rfl rfl rfl _ (y_assign rfl rfl) ?_
        refine S_go (fun _ _ h => h) ?_
        refine T_ret (fun a w hF hM => hRb a w (post1 rfl rfl (fun w hM => ?_) a w hF hM))
        exact ⟨by rw [hp2, hx2, hy2, eqLB, h30, Bool.false_and], hM.below⟩
      · try simp only [decide_eq_true_eq, decide_eq_false_iff_not, Bool.or_eq_true, Bool.or_eq_false_iff, Bool.and_eq_true, Bool.and_eq_false_iff, Bool.not_eq_true', Bool.not_eq_false', Bool.not_eq_true, Bool.not_eq_false, Bool.not_true, Bool.not_false, Int.not_lt, Int.not_le, not_or, not_and, Classical.not_not] at h30
        refine T_skip_go (fun _ _ h => h) ?_
        refine T_region ?_
        refine S_ 31 rfl rfl rfl _ (y_bin rfl rfl rfl (fun hg => b_add (by omega))) ?_
        refine S_ 17 rfl rfl rfl _ (y_move rfl rfl) ?_
        refine S_nil (nextK1 (kf := [(6, 9), (17, 31)]) (kl := [(6, 9), (17, 31)]) (i + 1) (by repeat (first | exact kf_nil | (apply kf_in; focus rfl) | (apply kf_out; focus rfl))) (by repeat (first | exact kl_nil | exact kl_rest (by assumption) rfl | (apply kl_in; focus rfl) | (apply kl_out; focus rfl))) ?_ ?_ ?_ ?_)
        · omega
        · exact ⟨by omega, by rw [hp2, hx2, hy2, eqLB, h30, Bool.true_and]⟩
        · exact ⟨rfl, trivial⟩
        · exact trivial
    · try simp only [decide_eq_true_eq, decide_eq_false_iff_not, Bool.or_eq_true, Bool.or_eq_false_iff, Bool.and_eq_true, Bool.and_eq_false_iff, Bool.not_eq_true', Bool.not_eq_false', Bool.not_eq_true, Bool.not_eq_false, Bool.not_true, Bool.not_false, Int.not_lt, Int.not_le, not_or, not_and, Classical.not_not] at h18
      refine T_exit_go (fun _ _ h => h) ?_
      refine T_seq ?_
      refine T_region ?_
      refine S_ 6 rfl rfl rfl _ (y_assign rfl rfl) ?_
      refine S_go (fun _ _ h => h) ?_
      refine T_ret (fun a w hF hM => hRb a w (post1 rfl rfl (fun w hM => ?_) a w hF hM))
      exact ⟨by rw [hp2, ht.end (by omega), hu.end (by omega)]; rfl, hM.below⟩
theorem sSame_any (l m : Sl Flt) (w : World) (hl : FltsOk w l) (hm : FltsOk w m) :
    Calls Tryd.prog 99 #[.slice l.A l.q l.c, .slice m.A m.q m.c] w fun e w' => e = .returned (.bool (eqLB Flt.eqB l.l m.l)) ∧ Below w.heap.size w w' := by
  refine enter_args (args := [.slice l.A l.q l.c, .slice m.A m.q m.c]) (F := _) Tryd.func99 rfl Tryd.ntmps99 rfl rfl ?_
  intro Rb hRb hRn
  refine T_seq ?_
  refine T_region ?_
  refine S_ 4 rfl rfl rfl _ (y_assign rfl rfl) ?_
  refine S_go (fun _ _ h => h) ?_
  refine T_seq ?_
  refine T_region ?_
  refine S_ 5 rfl rfl rfl _ (y_move rfl rfl) ?_
  refine S_ 6 rfl rfl rfl _ (y_move rfl rfl) ?_
  refine S_ 7 rfl rfl rfl _ (y_call rfl rfl rfl cf102 (fun _ w hM => EqualFuncFlt_any l m _ #[] w (hl.below hM.below) (hm.below hM.below) cf181 (fun x y w _ hx hy => sameFlt_any x y w hx hy))) ?_
  refine S_ 4 rfl rfl rfl _ (y_assign rfl rfl) ?_
  refine S_go (fun _ _ h => h) ?_
  refine T_ret (fun a w hF hM => hRb a w (post1 rfl rfl (fun w hM => ?_) a w hF hM))
  exact ⟨rfl, hM.below⟩
def sameE (a b : Evt) : Bool := decide (a.id = b.id) && decide (a.at_ = b.at_) && decide (a.lv = b.lv) && eqLB Flt.eqB a.fa.l b.fa.l && eqLB STag.eqB a.ta.l b.ta.l && eqLB SCrumb.eqB a.cr.l b.cr.l && decide (a.rel = b.rel) && decide (a.us = b.us) && decide (a.wt = b.wt)
theorem Same_any (a b : Evt) (w : World) (ha : a.Ok w) (hb : b.Ok w) :
    Calls Tryd.prog 35 #[a.val, b.val] w fun e w' => e = .returned (.bool (sameE a b)) ∧ Below w.heap.size w w' := by
  refine enter_args (args := [.agg #[str a.id, .int .i64 a.at_, .int .i64 a.lv, .slice a.fa.A a.fa.q a.fa.c, .slice a.ta.A a.ta.q a.ta.c, .slice a.cr.A a.cr.q a.cr.c, str a.rel, str a.us, .int .i64 a.wt], .agg #[str b.id, .int .i64 b.at_, .int .i64 b.lv, .slice b.fa.A b.fa.q b.fa.c, .slice b.ta.A b.ta.q b.ta.c, .slice b.cr.A b.cr.q b.cr.c, str b.rel, str b.us, .int .i64 b.wt]]) (F := _) Tryd.func35 rfl Tryd.ntmps35 rfl rfl ?_
  intro Rb hRb hRn
  refine T_seq ?_
  refine T_region ?_
  refine S_box 2 2 rfl rfl rfl rfl rfl ?_
  intro b2
  refine S_box 3 3 rfl rfl rfl rfl rfl ?_
  intro b3
  refine S_ 4 rfl rfl rfl _ (y_assign rfl rfl) ?_
  refine S_go (fun _ _ h => h) ?_
  refine T_seq ?_
  refine T_region ?_
  refine S_ 5 rfl rfl rfl _ (y_fieldAddr rfl rfl fa52_0) ?_
  refine S_ 6 rfl rfl rfl _ (y_load 2 rfl rfl rfl rfl Tryd.underlying9 rfl) ?_
  refine S_ 7 rfl rfl rfl _ (y_fieldAddr rfl rfl fa52_0) ?_
  refine S_ 8 rfl rfl rfl _ (y_load 3 rfl rfl rfl rfl Tryd.underlying9 rfl) ?_
  refine S_ 9 rfl rfl rfl _ (y_bin rfl rfl rfl (fun _ => b_eqls)) ?_
  refine S_ 10 rfl rfl rfl _ (y_move rfl rfl) ?_
  refine Sg_ 11 rfl rfl rfl rfl rfl rfl _ (y_fieldAddr rfl rfl fa52_1) ?_
  refine Sg_ 12 rfl rfl rfl rfl rfl rfl _ (y_load 2 rfl rfl rfl rfl Tryd.underlying3 rfl) ?_
  refine Sg_ 13 rfl rfl rfl rfl rfl rfl _ (y_fieldAddr rfl rfl fa52_1) ?_
  refine Sg_ 14 rfl rfl rfl rfl rfl rfl _ (y_load 3 rfl rfl rfl rfl Tryd.underlying3 rfl) ?_
  refine Sg_ 15 rfl rfl rfl rfl rfl rfl _ (y_bin rfl rfl rfl (fun _ => b_eql)) ?_
  refine S_ 16 rfl rfl rfl _ (y_and rfl rfl rfl) ?_
  refine S_ 17 rfl rfl rfl _ (y_move rfl rfl) ?_
  refine Sg_ 18 rfl rfl rfl rfl rfl rfl _ (y_fieldAddr rfl rfl fa52_2) ?_
  refine Sg_ 19 rfl rfl rfl rfl rfl rfl _ (y_load 2 rfl rfl rfl rfl Tryd.underlying3 rfl) ?_
  refine Sg_ 20 rfl rfl rfl rfl rfl rfl _ (y_fieldAddr rfl rfl fa52_2) ?_
  refine Sg_ 21 rfl rfl rfl rfl rfl rfl _ (y_load 3 rfl rfl rfl rfl Tryd.underlying3 rfl) ?_
  refine Sg_ 22 rfl rfl rfl rfl rfl rfl _ (y_bin rfl rfl rfl (fun _ => b_eql)) ?_
  refine S_ 23 rfl rfl rfl _ (y_and rfl rfl rfl) ?_
  refine S_ 24 rfl rfl rfl _ (y_move rfl rfl) ?_
  refine Sg_ 25 rfl rfl rfl rfl rfl rfl _ (y_fieldAddr rfl rfl fa52_3) ?_
  refine Sg_ 26 rfl rfl rfl rfl rfl rfl _ (y_load 2 rfl rfl rfl rfl Tryd.underlying48 rfl) ?_
  refine Sg_ 27 rfl rfl rfl rfl rfl rfl _ (y_fieldAddr rfl rfl fa52_3) ?_
  refine Sg_ 28 rfl rfl rfl rfl rfl rfl _ (y_load 3 rfl rfl rfl rfl Tryd.underlying48 rfl) ?_
  refine Sg_ 29 rfl rfl rfl rfl rfl rfl _ (y_call rfl rfl rfl cf99 (fun _ w hM => sSame_any a.fa b.fa w (ha.fa.below hM.below) (hb.fa.below hM.below))) ?_
  refine S_ 30 rfl rfl rfl _ (y_and rfl rfl rfl) ?_
  refine S_ 31 rfl rfl rfl _ (y_move rfl rfl) ?_
  refine Sg_ 32 rfl rfl rfl rfl rfl rfl _ (y_fieldAddr rfl rfl fa52_4) ?_
  refine Sg_ 33 rfl rfl rfl rfl rfl rfl _ (y_load 2 rfl rfl rfl rfl Tryd.underlying49 rfl) ?_
  refine Sg_ 34 rfl rfl rfl rfl rfl rfl _ (y_fieldAddr rfl rfl fa52_4) ?_
  refine Sg_ 35 rfl rfl rfl rfl rfl rfl _ (y_load 3 rfl rfl rfl rfl Tryd.underlying49 rfl) ?_
  refine Sg_ 36 rfl rfl rfl rfl rfl rfl _ (y_call rfl rfl rfl cf100 (fun _ w hM => EqualTg_any _ _ _ _ _ _ _ _ w (ha.ta.ok.t.below hM.below) (hb.ta.ok.t.below hM.below) ha.ta.q hb.ta.q)) ?_
  refine S_ 37 rfl rfl rfl _ (y_and rfl rfl rfl) ?_
  refine S_ 38 rfl rfl rfl _ (y_move rfl rfl) ?_
  refine Sg_ 39 rfl rfl rfl rfl rfl rfl _ (y_fieldAddr rfl rfl fa52_5) ?_
  refine Sg_ 40 rfl rfl rfl rfl rfl rfl _ (y_load 2 rfl rfl rfl rfl Tryd.underlying50 rfl) ?_
  refine Sg_ 41 rfl rfl rfl rfl rfl rfl _ (y_fieldAddr rfl rfl fa52_5) ?_
  refine Sg_ 42 rfl rfl rfl rfl rfl rfl _ (y_load 3 rfl rfl rfl rfl Tryd.underlying50 rfl) ?_
  refine Sg_ 43 rfl rfl rfl rfl rfl rfl _ (y_call rfl rfl rfl cf101 (fun _ w hM => EqualCr_any _ _ _ _ _ _ _ _ w (ha.cr.ok.t.below hM.below) (hb.cr.ok.t.below hM.below) ha.cr.q hb.cr.q)) ?_
  refine S_ 44 rfl rfl rfl _ (y_and rfl rfl rfl) ?_
  refine S_ 45 rfl rfl rfl _ (y_move rfl rfl) ?_
  refine Sg_ 46 rfl rfl rfl rfl rfl rfl _ (y_fieldAddr rfl rfl fa52_6) ?_
  refine Sg_ 47 rfl rfl rfl rfl rfl rfl _ (y_load 2 rfl rfl rfl rfl Tryd.underlying9 rfl) ?_
  refine Sg_ 48 rfl rfl rfl rfl rfl rfl _ (y_fieldAddr rfl rfl fa52_6) ?_
  refine Sg_ 49 rfl rfl rfl rfl rfl rfl _ (y_load 3 rfl rfl rfl rfl Tryd.underlying9 rfl) ?_
  refine Sg_ 50 rfl rfl rfl rfl rfl rfl _ (y_bin rfl rfl rfl (fun _ => b_eqls)) ?_
  refine S_ 51 rfl rfl rfl _ (y_and rfl rfl rfl) ?_
  refine S_ 52 rfl rfl rfl _ (y_move rfl rfl) ?_
  refine Sg_ 53 rfl rfl rfl rfl rfl rfl _ (y_fieldAddr rfl rfl fa52_7) ?_
  refine Sg_ 54 rfl rfl rfl rfl rfl rfl _ (y_load 2 rfl rfl rfl rfl Tryd.underlying9 rfl) ?_
  refine Sg_ 55 rfl rfl rfl rfl rfl rfl _ (y_fieldAddr rfl rfl fa52_7) ?_
  refine Sg_ 56 rfl rfl rfl rfl rfl rfl _ (y_load 3 rfl rfl rfl rfl Tryd.underlying9 rfl) ?_
  refine Sg_ 57 rfl rfl rfl rfl rfl rfl _ (y_bin rfl rfl rfl (fun _ => b_eqls)) ?_
  refine S_ 58 rfl rfl rfl _ (y_and rfl rfl rfl) ?_
  refine S_ 59 rfl rfl rfl _ (y_move rfl rfl) ?_
  refine Sg_ 60 rfl rfl rfl rfl rfl rfl _ (y_fieldAddr rfl rfl fa52_8) ?_
  refine Sg_ 61 rfl rfl rfl rfl rfl rfl _ (y_load 2 rfl rfl rfl rfl Tryd.underlying3 rfl) ?_
  refine Sg_ 62 rfl rfl rfl rfl rfl rfl _ (y_fieldAddr rfl rfl fa52_8) ?_
  refine Sg_ 63 rfl rfl rfl rfl rfl rfl _ (y_load 3 rfl rfl rfl rfl Tryd.underlying3 rfl) ?_
  refine Sg_ 64 rfl rfl rfl rfl rfl rfl _ (y_bin rfl rfl rfl (fun _ => b_eql)) ?_
  refine S_ 65 rfl rfl rfl _ (y_and rfl rfl rfl) ?_
  refine S_ 4 rfl rfl rfl _ (y_assign rfl rfl) ?_
  refine S_go (fun _ _ h => h) ?_
  refine T_ret (fun a w hF hM => hRb a w (post1 rfl rfl (fun w hM => ?_) a w hF hM))
  exact ⟨rfl, hM.below⟩
theorem SameEvent_any (a b : Evt) (w : World) (ha : a.Ok w) (hb : b.Ok w) :
    Calls Tryd.prog 36 #[a.val, b.val] w fun e w' => e = .returned (.bool (sameE a b)) ∧ Below w.heap.size w w' := by
  refine enter_args (args := [.agg #[str a.id, .int .i64 a.at_, .int .i64 a.lv, .slice a.fa.A a.fa.q a.fa.c, .slice a.ta.A a.ta.q a.ta.c, .slice a.cr.A a.cr.q a.cr.c, str a.rel, str a.us, .int .i64 a.wt], .agg #[str b.id, .int .i64 b.at_, .int .i64 b.lv, .slice b.fa.A b.fa.q b.fa.c, .slice b.ta.A b.ta.q b.ta.c, .slice b.cr.A b.cr.q b.cr.c, str b.rel, str b.us, .int .i64 b.wt]]) (F := _) Tryd.func36 rfl Tryd.ntmps36 rfl rfl ?_
  intro Rb hRb hRn
  refine T_seq ?_
  refine T_region ?_
  refine S_box 2 2 rfl rfl rfl rfl rfl ?_
  intro b2
  refine S_box 3 3 rfl rfl rfl rfl rfl ?_
  intro b3
  refine S_ 4 rfl rfl rfl _ (y_assign rfl rfl) ?_
  refine S_go (fun _ _ h => h) ?_
  refine T_seq ?_
  refine T_region ?_
  refine S_ 5 rfl rfl rfl _ (y_fieldAddr rfl rfl fa52_0) ?_
  refine S_ 6 rfl rfl rfl _ (y_load 2 rfl rfl rfl rfl Tryd.underlying9 rfl) ?_
  refine S_ 7 rfl rfl rfl _ (y_fieldAddr rfl rfl fa52_0) ?_
  refine S_ 8 rfl rfl rfl _ (y_load 3 rfl rfl rfl rfl Tryd.underlying9 rfl) ?_
  refine S_ 9 rfl rfl rfl _ (y_bin rfl rfl rfl (fun _ => b_eqls)) ?_
  refine S_ 10 rfl rfl rfl _ (y_move rfl rfl) ?_
  refine Sg_ 11 rfl rfl rfl rfl rfl rfl _ (y_fieldAddr rfl rfl fa52_1) ?_
  refine Sg_ 12 rfl rfl rfl rfl rfl rfl _ (y_load 2 rfl rfl rfl rfl Tryd.underlying3 rfl) ?_
  refine Sg_ 13 rfl rfl rfl rfl rfl rfl _ (y_fieldAddr rfl rfl fa52_1) ?_
  refine Sg_ 14 rfl rfl rfl rfl rfl rfl _ (y_load 3 rfl rfl rfl rfl Tryd.underlying3 rfl) ?_
  refine Sg_ 15 rfl rfl rfl rfl rfl rfl _ (y_bin rfl rfl rfl (fun _ => b_eql)) ?_
  refine S_ 16 rfl rfl rfl _ (y_and rfl rfl rfl) ?_
  refine S_ 17 rfl rfl rfl _ (y_move rfl rfl) ?_
  refine Sg_ 18 rfl rfl rfl rfl rfl rfl _ (y_fieldAddr rfl rfl fa52_2) ?_
  refine Sg_ 19 rfl rfl rfl rfl rfl rfl _ (y_load 2 rfl rfl rfl rfl Tryd.underlying3 rfl) ?_
  refine Sg_ 20 rfl rfl rfl rfl rfl rfl _ (y_fieldAddr rfl rfl fa52_2) ?_
  refine Sg_ 21 rfl rfl rfl rfl rfl rfl _ (y_load 3 rfl rfl rfl rfl Tryd.underlying3 rfl) ?_
  refine Sg_ 22 rfl rfl rfl rfl rfl rfl _ (y_bin rfl rfl rfl (fun _ => b_eql)) ?_
  refine S_ 23 rfl rfl rfl _ (y_and rfl rfl rfl) ?_
  refine S_ 24 rfl rfl rfl _ (y_move rfl rfl) ?_
  refine Sg_ 25 rfl rfl rfl rfl rfl rfl _ (y_fieldAddr rfl rfl fa52_3) ?_
  refine Sg_ 26 rfl rfl rfl rfl rfl rfl _ (y_load 2 rfl rfl rfl rfl Tryd.underlying48 rfl) ?_
  refine Sg_ 27 rfl rfl rfl rfl rfl rfl _ (y_fieldAddr rfl rfl fa52_3) ?_
  refine Sg_ 28 rfl rfl rfl rfl rfl rfl _ (y_load 3 rfl rfl rfl rfl Tryd.underlying48 rfl) ?_
  refine Sg_ 29 rfl rfl rfl rfl rfl rfl _ (y_call rfl rfl rfl cf102 (fun _ w hM => EqualFuncFlt_any a.fa b.fa _ #[] w (ha.fa.below hM.below) (hb.fa.below hM.below) cf103 (fun x y w _ hx hy => SameFault_any x y w hx hy))) ?_
  refine S_ 30 rfl rfl rfl _ (y_and rfl rfl rfl) ?_
  refine S_ 31 rfl rfl rfl _ (y_move rfl rfl) ?_
  refine Sg_ 32 rfl rfl rfl rfl rfl rfl _ (y_fieldAddr rfl rfl fa52_4) ?_
  refine Sg_ 33 rfl rfl rfl rfl rfl rfl _ (y_load 2 rfl rfl rfl rfl Tryd.underlying49 rfl) ?_
  refine Sg_ 34 rfl rfl rfl rfl rfl rfl _ (y_fieldAddr rfl rfl fa52_4) ?_
  refine Sg_ 35 rfl rfl rfl rfl rfl rfl _ (y_load 3 rfl rfl rfl rfl Tryd.underlying49 rfl) ?_
  refine Sg_ 36 rfl rfl rfl rfl rfl rfl _ (y_call rfl rfl rfl cf100 (fun _ w hM => EqualTg_any _ _ _ _ _ _ _ _ w (ha.ta.ok.t.below hM.below) (hb.ta.ok.t.below hM.below) ha.ta.q hb.ta.q)) ?_
  refine S_ 37 rfl rfl rfl _ (y_and rfl rfl rfl) ?_
  refine S_ 38 rfl rfl rfl _ (y_move rfl rfl) ?_
  refine Sg_ 39 rfl rfl rfl rfl rfl rfl _ (y_fieldAddr rfl rfl fa52_5) ?_
  refine Sg_ 40 rfl rfl rfl rfl rfl rfl _ (y_load 2 rfl rfl rfl rfl Tryd.underlying50 rfl) ?_
  refine Sg_ 41 rfl rfl rfl rfl rfl rfl _ (y_fieldAddr rfl rfl fa52_5) ?_
  refine Sg_ 42 rfl rfl rfl rfl rfl rfl _ (y_load 3 rfl rfl rfl rfl Tryd.underlying50 rfl) ?_
  refine Sg_ 43 rfl rfl rfl rfl rfl rfl _ (y_call rfl rfl rfl cf101 (fun _ w hM => EqualCr_any _ _ _ _ _ _ _ _ w (ha.cr.ok.t.below hM.below) (hb.cr.ok.t.below hM.below) ha.cr.q hb.cr.q)) ?_
  refine S_ 44 rfl rfl rfl _ (y_and rfl rfl rfl) ?_
  refine S_ 45 rfl rfl rfl _ (y_move rfl rfl) ?_
  refine Sg_ 46 rfl rfl rfl rfl rfl rfl _ (y_fieldAddr rfl rfl fa52_6) ?_
  refine Sg_ 47 rfl rfl rfl rfl rfl rfl _ (y_load 2 rfl rfl rfl rfl Tryd.underlying9 rfl) ?_
  refine Sg_ 48 rfl rfl rfl rfl rfl rfl _ (y_fieldAddr rfl rfl fa52_6) ?_
  refine Sg_ 49 rfl rfl rfl rfl rfl rfl _ (y_load 3 rfl rfl rfl rfl Tryd.underlying9 rfl) ?_
  refine Sg_ 50 rfl rfl rfl rfl rfl rfl _ (y_bin rfl rfl rfl (fun _ => b_eqls)) ?_
  refine S_ 51 rfl rfl rfl _ (y_and rfl rfl rfl) ?_
  refine S_ 52 rfl rfl rfl _ (y_move rfl rfl) ?_
  refine Sg_ 53 rfl rfl rfl rfl rfl rfl _ (y_fieldAddr rfl rfl fa52_7) ?_
  refine Sg_ 54 rfl rfl rfl rfl rfl rfl _ (y_load 2 rfl rfl rfl rfl Tryd.underlying9 rfl) ?_
  refine Sg_ 55 rfl rfl rfl rfl rfl rfl _ (y_fieldAddr rfl rfl fa52_7) ?_
  refine Sg_ 56 rfl rfl rfl rfl rfl rfl _ (y_load 3 rfl rfl rfl rfl Tryd.underlying9 rfl) ?_
  refine Sg_ 57 rfl rfl rfl rfl rfl rfl _ (y_bin rfl rfl rfl (fun _ => b_eqls)) ?_
  refine S_ 58 rfl rfl rfl _ (y_and rfl rfl rfl) ?_
  refine S_ 59 rfl rfl rfl _ (y_move rfl rfl) ?_
  refine Sg_ 60 rfl rfl rfl rfl rfl rfl _ (y_fieldAddr rfl rfl fa52_8) ?_
  refine Sg_ 61 rfl rfl rfl rfl rfl rfl _ (y_load 2 rfl rfl rfl rfl Tryd.underlying3 rfl) ?_
  refine Sg_ 62 rfl rfl rfl rfl rfl rfl _ (y_fieldAddr rfl rfl fa52_8) ?_
  refine Sg_ 63 rfl rfl rfl rfl rfl rfl _ (y_load 3 rfl rfl rfl rfl Tryd.underlying3 rfl) ?_
  refine Sg_ 64 rfl rfl rfl rfl rfl rfl _ (y_bin rfl rfl rfl (fun _ => b_eql)) ?_
  refine S_ 65 rfl rfl rfl _ (y_and rfl rfl rfl) ?_
  refine S_ 4 rfl rfl rfl _ (y_assign rfl rfl) ?_
  refine S_go (fun _ _ h => h) ?_
  refine T_ret (fun a w hF hM => hRb a w (post1 rfl rfl (fun w hM => ?_) a w hF hM))
  exact ⟨rfl, hM.below⟩
theorem eqL_refl {α : Type} {f : α → α → Bool} (h : ∀ a, f a a = true) : ∀ l : List α, eqLB f l l = true
  | [] => rfl
  | a :: r => by rw [eqLB, eqL_refl h r, h]; rfl
theorem Flt.eqB_refl (x : Flt) : Flt.eqB x x = true := by simp [Flt.eqB, eqL_refl (fun a => (Frm.eqB_iff a a).2 rfl)]
theorem sameE_refl (a : Evt) : sameE a a = true := by
  simp [sameE, eqL_refl Flt.eqB_refl, eqL_refl (fun a => (STag.eqB_iff a a).2 rfl), eqL_refl (fun a => (SCrumb.eqB_iff a a).2 rfl)]
/-- the value of a tag -/
def tagV (n : List UInt8) : List STag → List UInt8 × Bool
  | [] => ([], false)
  | t :: r => if t.n = n then (t.v, true) else tagV n r
theorem Tag_any (e : Evt) (n : List UInt8) (w : World) (he : e.Ok w) :
    Calls Tryd.prog 31 #[e.val, str n] w fun en w' => en = .returned (.tuple #[str (tagV n e.ta.l).1, .bool (tagV n e.ta.l).2]) ∧ Below w.heap.size w w' := by
  have ht := he.ta.ok.t
  have hq := he.ta.q
  refine enter_args (args := [.agg #[str e.id, .int .i64 e.at_, .int .i64 e.lv, .slice e.fa.A e.fa.q e.fa.c, .slice e.ta.A e.ta.q e.ta.c, .slice e.cr.A e.cr.q e.cr.c, str e.rel, str e.us, .int .i64 e.wt], str n]) (F := _) Tryd.func31 rfl Tryd.ntmps31 rfl rfl ?_
  intro Rb hRb hRn
  refine T_seq ?_
  refine T_region ?_
  refine S_box 2 2 rfl rfl rfl rfl rfl ?_
  intro b2
  refine S_ 4 rfl rfl rfl _ (y_assign rfl rfl) ?_
  refine S_ 5 rfl rfl rfl _ (y_assign rfl rfl) ?_
  refine S_go (fun _ _ h => h) ?_
  refine T_seq ?_
  refine T_seq ?_
  refine T_region ?_
  refine S_ 8 rfl rfl rfl _ (y_fieldAddr rfl rfl fa52_4) ?_
  refine S_ 9 rfl rfl rfl _ (y_load 2 rfl rfl rfl rfl Tryd.underlying49 rfl) ?_
  refine S_ 10 rfl rfl rfl _ (y_len_slice rfl rfl Tryd.underlying49) ?_
  refine S_ 11 rfl rfl rfl _ (y_move rfl rfl) ?_
  refine S_go (fun _ _ h => h) ?_
  refine T_block ?_
  refine T_loopK1 (kf := [(4, 5), (7, 7), (11, 21)]) (kl := [(4, 5), (7, 7), (11, 21)]) (fun (i : Nat) => [(11, true, .int .i64 (i : Int))]) (fun (i : Nat) => []) (fun (i : Nat) => i ≤ e.ta.q ∧ tagV n e.ta.l = tagV n (e.ta.l.drop i)) (fun (i : Nat) => e.ta.q - i) 0 (by repeat (first | exact kf_nil | (apply kf_in; focus rfl) | (apply kf_out; focus rfl))) (by repeat (first | exact kl_nil | exact kl_rest (by assumption) rfl | (apply kl_in; focus rfl) | (apply kl_out; focus rfl))) ?_ ?_ ?_ ?_
  · exact ⟨by omega, rfl⟩
  · exact ⟨rfl, trivial⟩
  · exact trivial
  rintro i ⟨hp1, hp2⟩
  refine T_seq ?_
  refine T_region ?_
  refine S_ 12 rfl rfl rfl _ (y_bin rfl rfl rfl (fun _ => b_lss)) ?_
  refine S_go (fun _ _ h => h) ?_
  refine T_seq ?_
  refine T_cond rfl (fun h12 => ?_) (fun h12 => ?_)
  · try simp only [decide_eq_true_eq, decide_eq_false_iff_not, Bool.or_eq_true, Bool.or_eq_false_iff, Bool.and_eq_true, Bool.and_eq_false_iff, Bool.not_eq_true', Bool.not_eq_false', Bool.not_eq_true, Bool.not_eq_false, Bool.not_true, Bool.not_false, Int.not_lt, Int.not_le, not_or, not_and, Classical.not_not] at h12
    obtain ⟨x, hx1, hx2⟩ := ht.at (i := i) (by omega)
    refine T_skip_go (fun _ _ h => h) ?_
    refine T_seq ?_
    refine T_block ?_
    refine T_seq ?_
    refine T_region ?_
    refine S_ 13 rfl rfl rfl _ (y_indexAddr rfl rfl rfl Tryd.underlying49 sz128 (fun hg => ht.isSome (by omega)) (fun _ => by omega)) ?_
    refine S_ 14 rfl rfl rfl _ (y_loadT rfl rfl ht (fun _ => rfl) (fun _ => hx1) Tryd.underlying128 rfl sz128) ?_
    refine S_alloc 7 7 rfl rfl rfl rfl z128 ?_
    intro b7
    refine S_store 7 rfl rfl rfl rfl rfl rfl sz128 rfl rfl ?_
    refine S_go (fun _ _ h => h) ?_
    refine T_seq ?_
    refine T_region ?_
    refine S_ 15 rfl rfl rfl _ (y_fieldAddr rfl rfl fa128_0) ?_
    refine S_ 16 rfl rfl rfl _ (y_load 7 rfl rfl rfl rfl Tryd.underlying9 rfl) ?_
    refine S_ 17 rfl rfl rfl _ (y_move rfl rfl) ?_
    refine S_ 18 rfl rfl rfl _ (y_bin rfl rfl rfl (fun _ => b_eqls)) ?_
    refine S_go (fun _ _ h => h) ?_
    refine T_cond rfl (fun h18 => ?_) (fun h18 => ?_)
    · try simp only [decide_eq_true_eq, decide_eq_false_iff_not, Bool.or_eq_true, Bool.or_eq_false_iff, Bool.and_eq_true, Bool.and_eq_false_iff, Bool.not_eq_true', Bool.not_eq_false', Bool.not_eq_true, Bool.not_eq_false, Bool.not_true, Bool.not_false, Int.not_lt, Int.not_le, not_or, not_and, Classical.not_not] at h18
      refine T_seq ?_
      refine T_region ?_
      refine S_ 19 rfl rfl rfl _ (y_fieldAddr rfl rfl fa128_1) ?_
      refine S_ 20 rfl rfl rfl _ (y_load 7 rfl rfl rfl rfl Tryd.underlying9 rfl) ?_
      refine S_ 4 rfl rfl rfl _ (y_assign rfl rfl) ?_
      refine S_ 5 rfl rfl rfl _ (y_assign rfl rfl) ?_
      refine S_go (fun _ _ h => h) ?_
      refine T_ret (fun a w hF hM => hRb a w (post2 rfl rfl rfl (fun w hM => ?_) a w hF hM))
      exact ⟨by rw [hp2, hx2, tagV, if_pos h18], hM.below⟩
    · try simp only [decide_eq_true_eq, decide_eq_false_iff_not, Bool.or_eq_true, Bool.or_eq_false_iff, Bool.and_eq_true, Bool.and_eq_false_iff, Bool.not_eq_true', Bool.not_eq_false', Bool.not_eq_true, Bool.not_eq_false, Bool.not_true, Bool.not_false, Int.not_lt, Int.not_le, not_or, not_and, Classical.not_not] at h18
      refine T_skip_go (fun _ _ h => h) ?_
      refine T_region ?_
      refine S_ 21 rfl rfl rfl _ (y_bin rfl rfl rfl (fun hg => b_add (by omega))) ?_
      refine S_ 11 rfl rfl rfl _ (y_move rfl rfl) ?_
      refine S_nil (nextK1 (kf := [(4, 5), (7, 7), (11, 21)]) (kl := [(4, 5), (7, 7), (11, 21)]) (i + 1) (by repeat (first | exact kf_nil | (apply kf_in; focus rfl) | (apply kf_out; focus rfl))) (by repeat (first | exact kl_nil | exact kl_rest (by assumption) rfl | (apply kl_in; focus rfl) | (apply kl_out; focus rfl))) ?_ ?_ ?_ ?_)
      · omega
      · exact ⟨by omega, by rw [hp2, hx2, tagV, if_neg h18]⟩
      · exact ⟨rfl, trivial⟩
      · exact trivial
  · try simp only [decide_eq_true_eq, decide_eq_false_iff_not, Bool.or_eq_true, Bool.or_eq_false_iff, Bool.and_eq_true, Bool.and_eq_false_iff, Bool.not_eq_true', Bool.not_eq_false', Bool.not_eq_true, Bool.not_eq_false, Bool.not_true, Bool.not_false, Int.not_lt, Int.not_le, not_or, not_and, Classical.not_not] at h12
    refine T_exit_go (fun _ _ h => h) ?_
    refine T_seq ?_
    refine T_region ?_
    refine S_ 4 rfl rfl rfl _ (y_assign rfl rfl) ?_
    refine S_ 5 rfl rfl rfl _ (y_assign rfl rfl) ?_
    refine S_go (fun _ _ h => h) ?_
    refine T_ret (fun a w hF hM => hRb a w (post2 rfl rfl rfl (fun w hM => ?_) a w hF hM))
    exact ⟨by rw [hp2, ht.end (by omega)]; rfl, hM.below⟩
theorem Tagged_any (e : Evt) (n : List UInt8) (w : World) (he : e.Ok w) :
    Calls Tryd.prog 32 #[e.val, str n] w fun en w' => en = .returned (.tuple #[str (tagV n e.ta.l).1, .bool (tagV n e.ta.l).2]) ∧ Below w.heap.size w w' := by
  have ht := he.ta.ok.t
  have hq := he.ta.q
  refine enter_args (args := [.agg #[str e.id, .int .i64 e.at_, .int .i64 e.lv, .slice e.fa.A e.fa.q e.fa.c, .slice e.ta.A e.ta.q e.ta.c, .slice e.cr.A e.cr.q e.cr.c, str e.rel, str e.us, .int .i64 e.wt], str n]) (F := _) Tryd.func32 rfl Tryd.ntmps32 rfl rfl ?_
  intro Rb hRb hRn
  refine T_seq ?_
  refine T_region ?_
  refine S_box 2 2 rfl rfl rfl rfl rfl ?_
  intro b2
  refine S_ 4 rfl rfl rfl _ (y_assign rfl rfl) ?_
  refine S_ 5 rfl rfl rfl _ (y_assign rfl rfl) ?_
  refine S_go (fun _ _ h => h) ?_
  refine T_seq ?_
  refine T_seq ?_
  refine T_region ?_
  refine S_ 8 rfl rfl rfl _ (y_fieldAddr rfl rfl fa52_4) ?_
  refine S_ 9 rfl rfl rfl _ (y_load 2 rfl rfl rfl rfl Tryd.underlying49 rfl) ?_
  refine S_ 10 rfl rfl rfl _ (y_len_slice rfl rfl Tryd.underlying49) ?_
  refine S_ 11 rfl rfl rfl _ (y_move rfl rfl) ?_
  refine S_go (fun _ _ h => h) ?_
  refine T_block ?_
  refine T_loopK1 (kf := [(4, 5), (7, 7), (11, 21)]) (kl := [(4, 5), (7, 7), (11, 21)]) (fun (i : Nat) => [(11, true, .int .i64 (i : Int))]) (fun (i : Nat) => []) (fun (i : Nat) => i ≤ e.ta.q ∧ tagV n e.ta.l = tagV n (e.ta.l.drop i)) (fun (i : Nat) => e.ta.q - i) 0 (by repeat (first | exact kf_nil | (apply kf_in; focus rfl) | (apply kf_out; focus rfl))) (by repeat (first | exact kl_nil | exact kl_rest (by assumption) rfl | (apply kl_in; focus rfl) | (apply kl_out; focus rfl))) ?_ ?_ ?_ ?_
  · exact ⟨by omega, rfl⟩
  · exact ⟨rfl, trivial⟩
  · exact trivial
  rintro i ⟨hp1, hp2⟩
  refine T_seq ?_
  refine T_region ?_
  refine S_ 12 rfl rfl rfl _ (y_bin rfl rfl rfl (fun _ => b_lss)) ?_
  refine S_go (fun _ _ h => h) ?_
  refine T_seq ?_
  refine T_cond rfl (fun h12 => ?_) (fun h12 => ?_)
  · try simp only [decide_eq_true_eq, decide_eq_false_iff_not, Bool.or_eq_true, Bool.or_eq_false_iff, Bool.and_eq_true, Bool.and_eq_false_iff, Bool.not_eq_true', Bool.not_eq_false', Bool.not_eq_true, Bool.not_eq_false, Bool.not_true, Bool.not_false, Int.not_lt, Int.not_le, not_or, not_and, Classical.not_not] at h12
    obtain ⟨x, hx1, hx2⟩ := ht.at (i := i) (by omega)
    refine T_skip_go (fun _ _ h => h) ?_
    refine T_seq ?_
    refine T_block ?_
    refine T_seq ?_
    refine T_region ?_
    refine S_ 13 rfl rfl rfl _ (y_indexAddr rfl rfl rfl Tryd.underlying49 sz128 (fun hg => ht.isSome (by omega)) (fun _ => by omega)) ?_
    refine S_ 14 rfl rfl rfl _ (y_loadT rfl rfl ht (fun _ => rfl) (fun _ => hx1) Tryd.underlying128 rfl sz128) ?_
    refine S_alloc 7 7 rfl rfl rfl rfl z128 ?_
    intro b7
    refine S_store 7 rfl rfl rfl rfl rfl rfl sz128 rfl rfl ?_
    refine S_go (fun _ _ h => h) ?_
    refine T_seq ?_
    refine T_region ?_
    refine S_ 15 rfl rfl rfl _ (y_fieldAddr rfl rfl fa128_0) ?_
    refine S_ 16 rfl rfl rfl _ (y_load 7 rfl rfl rfl rfl Tryd.underlying9 rfl) ?_
    refine S_ 17 rfl rfl rfl _ (y_move rfl rfl) ?_
    refine S_ 18 rfl rfl rfl _ (y_bin rfl rfl rfl (fun _ => b_eqls)) ?_
    refine S_go (fun _ _ h => h) ?_
    refine T_cond rfl (fun h18 => ?_) (fun h18 => ?_)
    · try simp only [decide_eq_true_eq, decide_eq_false_iff_not, Bool.or_eq_true, Bool.or_eq_false_iff, Bool.and_eq_true, Bool.and_eq_false_iff, Bool.not_eq_true', Bool.not_eq_false', Bool.not_eq_true, Bool.not_eq_false, Bool.not_true, Bool.not_false, Int.not_lt, Int.not_le, not_or, not_and, Classical.not_not] at h18
      refine T_seq ?_
      refine T_region ?_
      refine S_ 19 rfl rfl rfl _ (y_fieldAddr rfl rfl fa128_1) ?_
      refine S_ 20 rfl rfl rfl _ (y_load 7 rfl rfl rfl rfl Tryd.underlying9 rfl) ?_
      refine S_ 4 rfl rfl rfl _ (y_assign rfl rfl) ?_
      refine S_ 5 rfl rfl rfl _ (y_assign rfl rfl) ?_
      refine S_go (fun _ _ h => h) ?_
      refine T_ret (fun a w hF hM => hRb a w (post2 rfl rfl rfl (fun w hM => ?_) a w hF hM))
      exact ⟨by rw [hp2, hx2, tagV, if_pos h18], hM.below⟩
    · try simp only [decide_eq_true_eq, decide_eq_false_iff_not, Bool.or_eq_true, Bool.or_eq_false_iff, Bool.and_eq_true, Bool.and_eq_false_iff, Bool.not_eq_true', Bool.not_eq_false', Bool.not_eq_true, Bool.not_eq_false, Bool.not_true, Bool.not_false, Int.not_lt, Int.not_le, not_or, not_and, Classical.not_not] at h18
      refine T_skip_go (fun _ _ h => h) ?_
      refine T_region ?_
      refine S_ 21 rfl rfl rfl _ (y_bin rfl rfl rfl (fun hg => b_add (by omega))) ?_
      refine S_ 11 rfl rfl rfl _ (y_move rfl rfl) ?_
      refine S_nil (nextK1 (kf := [(4, 5), (7, 7), (11, 21)]) (kl := [(4, 5), (7, 7), (11, 21)]) (i + 1) (by repeat (first | exact kf_nil | (apply kf_in; focus rfl) | (apply kf_out; focus rfl))) (by repeat (first | exact kl_nil | exact kl_rest (by assumption) rfl | (apply kl_in; focus rfl) | (apply kl_out; focus rfl))) ?_ ?_ ?_ ?_)
      · omega
      · exact ⟨by omega, by rw [hp2, hx2, tagV, if_neg h18]⟩
      · exact ⟨rfl, trivial⟩
      · exact trivial
  · try simp only [decide_eq_true_eq, decide_eq_false_iff_not, Bool.or_eq_true, Bool.or_eq_false_iff, Bool.and_eq_true, Bool.and_eq_false_iff, Bool.not_eq_true', Bool.not_eq_false', Bool.not_eq_true, Bool.not_eq_false, Bool.not_true, Bool.not_false, Int.not_lt, Int.not_le, not_or, not_and, Classical.not_not] at h12
    refine T_exit_go (fun _ _ h => h) ?_
    refine T_seq ?_
    refine T_region ?_
    refine S_ 4 rfl rfl rfl _ (y_assign rfl rfl) ?_
    refine S_ 5 rfl rfl rfl _ (y_assign rfl rfl) ?_
    refine S_go (fun _ _ h => h) ?_
    refine T_ret (fun a w hF hM => hRb a w (post2 rfl rfl rfl (fun w hM => ?_) a w hF hM))
    exact ⟨by rw [hp2, ht.end (by omega)]; rfl, hM.below⟩
/-- the words of levels -/
def levels : List (List UInt8) := [[100, 101, 98, 117, 103], [110, 111, 116, 101], [119, 97, 114, 110, 105, 110, 103], [101, 114, 114, 111, 114], [102, 97, 116, 97, 108]]
theorem Levels_any (w : World) :
    Calls Tryd.prog 37 #[] w fun e w' => ∃ A c, e = .returned (.slice A 5 c) ∧ w'.ownsRow w.heap.size 9 1 (.slice A 5 c) 5 (levels.flatMap strE) ∧ Below w.heap.size w w' := by
  refine enter_args (args := []) (F := _) Tryd.func37 rfl Tryd.ntmps37 rfl rfl ?_
  intro Rb hRb hRn
  refine T_seq ?_
  refine T_region ?_
  refine S_nilSlice 0 (e := 9) (size := 1) ?_
  refine S_ 0 rfl rfl rfl _ (y_assign rfl rfl) ?_
  refine S_go (fun _ _ h => h) ?_
  refine T_seq ?_
  refine T_region ?_
  refine S_buildSlice 1 1 rfl rfl rfl rfl rfl Tryd.underlying25 inf9 rfl (by decide) (by decide) rfl rfl (by decide) rfl (_) rfl ?_
  intro b1
  refine S_ 0 rfl rfl rfl _ (y_assign rfl rfl) ?_
  refine S_go (fun _ _ h => h) ?_
  refine T_ret (fun a w hF hM => hRb a w (post1 rfl rfl (fun w hM => ?_) a w hF hM))
  exact ⟨_, _, rfl, hM.sat 1 _ rfl, hM.below⟩
theorem LevelWords_any (w : World) :
    Calls Tryd.prog 38 #[] w fun e w' => ∃ A c, e = .returned (.slice A 5 c) ∧ w'.ownsRow w.heap.size 9 1 (.slice A 5 c) 5 (levels.flatMap strE) ∧ Below w.heap.size w w' := by
  refine enter_args (args := []) (F := _) Tryd.func38 rfl Tryd.ntmps38 rfl rfl ?_
  intro Rb hRb hRn
  refine T_seq ?_
  refine T_region ?_
  refine S_nilSlice 0 (e := 9) (size := 1) ?_
  refine S_ 0 rfl rfl rfl _ (y_assign rfl rfl) ?_
  refine S_go (fun _ _ h => h) ?_
  refine T_seq ?_
  refine T_region ?_
  refine S_buildSlice 1 1 rfl rfl rfl rfl rfl Tryd.underlying25 inf9 rfl (by decide) (by decide) rfl rfl (by decide) rfl (_) rfl ?_
  intro b1
  refine S_ 0 rfl rfl rfl _ (y_assign rfl rfl) ?_
  refine S_go (fun _ _ h => h) ?_
  refine T_ret (fun a w hF hM => hRb a w (post1 rfl rfl (fun w hM => ?_) a w hF hM))
  exact ⟨_, _, rfl, hM.sat 1 _ rfl, hM.below⟩
end Go.Proofs.YtoeipmepmlikcaaDoor
