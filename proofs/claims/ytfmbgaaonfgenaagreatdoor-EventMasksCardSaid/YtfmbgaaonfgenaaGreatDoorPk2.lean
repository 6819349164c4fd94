/- Part 2, merged by a program. Events are compared, and what is asked of one: Same, Tag, Levels, and the reference's. Conditions: those of each theorem. Parts of a string that are found, and what is put in their place: a mask. Plain lists; no program in sight. What a mask leaves: no row that is long enough, no address; and what is masked once more has none either. Plain lists; no program in sight. Addresses in a string: what is found, and that none is left behind a mask. Plain lists; no program in sight. Clones of faults, tags and crumbs; frames put together, and cut. Conditions: those of each theorem. slices.IndexFunc and DeleteFunc of parts of a string. Conditions: those of each theorem. What a rule finds in a string: rows of digits, of digits of base 16, addresses. Conditions: those of each theorem. A house's setup in plain lists, and its fault. No program in sight. -/
import Derived.Test.YtfmbgaaonfgenaaGreatDoorApp
import Derived.Test.YtfmbgaaonfgenaaGreatDoorMany
import Derived.Test.YtfmbgaaonfgenaaGreatDoorClr
import Derived.Test.YtfmbgaaonfgenaaGreatDoorSwp
import Derived.Test.YtfmbgaaonfgenaaGreatDoorGrd
import Derived.Test.YtfmbgaaonfgenaaGreatDoorPk1
section
namespace Go.Proofs.YtfmbgaaonfgenaaGreatDoor
set_option linter.unusedSimpArgs false
set_option linter.unusedVariables false
set_option maxRecDepth 20000
open Go.RowKit Go.Eng
def Frm.eqB (a b : Frm) : Bool := decide (a.m = b.m) && (decide (a.f = b.f) && (decide (a.fi = b.fi) && (decide (a.ln = b.ln) && (decide (a.ad = b.ad) && (a.own == b.own)))))
theorem Frm.eqB_iff (a b : Frm) : Frm.eqB a b = true ↔ a = b := by cases a; cases b; simp [Frm.eqB]
def STag.eqB (a b : STag) : Bool := decide (a.n = b.n) && decide (a.v = b.v)
theorem STag.eqB_iff (a b : STag) : STag.eqB a b = true ↔ a = b := by cases a; cases b; simp [STag.eqB]
def SCrumb.eqB (a b : SCrumb) : Bool := decide (a.at_ = b.at_) && (decide (a.k = b.k) && decide (a.t = b.t))
theorem SCrumb.eqB_iff (a b : SCrumb) : SCrumb.eqB a b = true ↔ a = b := by cases a; cases b; simp [SCrumb.eqB]
theorem EqualFr_any (A B : Option Addr) (q c p d : Nat) (l m : List (Frm)) (w : World) (hl : SlT Frm.enc 6 w A q l) (hm : SlT Frm.enc 6 w B p m) (hq : q ≤ 4611686018427387904) (hp : p ≤ 4611686018427387904) :
    Calls Tryz.prog 176 #[.slice A q c, .slice B p d] w fun e w' => e = .returned (.bool (eqLB Frm.eqB l m)) ∧ Below w.heap.size w w' := by
  have hlen := hl.len
  have hmen := hm.len
  refine enter_args (args := [.slice A q c, .slice B p d]) (F := _) Tryz.func176 rfl Tryz.ntmps176 rfl rfl ?_
  intro Rb hRb hRn
  refine T_seq ?_
  refine T_region ?_
  refine S_ 4 rfl rfl rfl _ (y_assign rfl rfl) ?_
  refine S_go (fun _ _ h => h) ?_
  refine T_seq ?_
  refine T_seq ?_
  refine T_region ?_
  refine S_ 6 rfl rfl rfl _ (y_move rfl rfl) ?_
  refine S_ 7 rfl rfl rfl _ (y_len_slice rfl rfl Tryz.underlying48) ?_
  refine S_ 8 rfl rfl rfl _ (y_move rfl rfl) ?_
  refine S_ 9 rfl rfl rfl _ (y_len_slice rfl rfl Tryz.underlying48) ?_
  refine S_ 10 rfl rfl rfl _ (y_bin rfl rfl rfl (fun _ => b_neq)) ?_
  refine S_go (fun _ _ h => h) ?_
  refine T_cond rfl (fun h10 => ?_) (fun h10 => ?_)
  · try simp only [decide_eq_true_eq, decide_eq_false_iff_not, Bool.or_eq_true, Bool.or_eq_false_iff, Bool.and_eq_true, Bool.and_eq_false_iff, Bool.not_eq_true', Bool.not_eq_false', Bool.not_eq_true, Bool.not_eq_false, Bool.not_true, Bool.not_false, Int.not_lt, Int.not_le, not_or, not_and, Classical.not_not] at h10
    refine T_seq ?_
    refine T_region ?_
    refine S_ 4 rfl rfl rfl _ (y_assign rfl rfl) ?_
    refine S_go (fun _ _ h => h) ?_
    refine T_ret (fun a w hF hM => hRb a w (post1 rfl rfl (fun w hM => ?_) a w hF hM))
    exact ⟨by rw [eqLB_len l m (by omega)], hM.below⟩
  · try simp only [decide_eq_true_eq, decide_eq_false_iff_not, Bool.or_eq_true, Bool.or_eq_false_iff, Bool.and_eq_true, Bool.and_eq_false_iff, Bool.not_eq_true', Bool.not_eq_false', Bool.not_eq_true, Bool.not_eq_false, Bool.not_true, Bool.not_false, Int.not_lt, Int.not_le, not_or, not_and, Classical.not_not] at h10
    refine T_skip_go (fun _ _ h => h) ?_
    refine T_seq ?_
    refine T_seq ?_
    refine T_region ?_
    refine S_ 11 rfl rfl rfl _ (y_move rfl rfl) ?_
    refine S_ 12 rfl rfl rfl _ (y_len_slice rfl rfl Tryz.underlying48) ?_
    refine S_ 13 rfl rfl rfl _ (y_move rfl rfl) ?_
    refine S_go (fun _ _ h => h) ?_
    refine T_block ?_
    refine T_loopK1 (kf := [(4, 5), (13, 25)]) (kl := [(4, 5), (13, 25)]) (fun (i : Nat) => [(13, true, .int .i64 (i : Int))]) (fun (i : Nat) => []) (fun (i : Nat) => i ≤ q ∧ eqLB Frm.eqB l m = eqLB Frm.eqB (l.drop i) (m.drop i)) (fun (i : Nat) => q - i) 0 (by repeat (first | exact kf_nil | (apply kf_in; focus rfl) | (apply kf_out; focus rfl))) (by repeat (first | exact kl_nil | exact kl_rest (by assumption) rfl | (apply kl_in; focus rfl) | (apply kl_out; focus rfl))) ?_ ?_ ?_ ?_
    · exact ⟨by omega, rfl⟩
    · exact ⟨rfl, trivial⟩
    · exact trivial
    rintro i ⟨hp1, hp2⟩
    refine T_seq ?_
    refine T_region ?_
    refine S_ 14 rfl rfl rfl _ (y_bin rfl rfl rfl (fun _ => b_lss)) ?_
    refine S_go (fun _ _ h => h) ?_
    refine T_seq ?_
    refine T_cond rfl (fun h14 => ?_) (fun h14 => ?_)
    · try simp only [decide_eq_true_eq, decide_eq_false_iff_not, Bool.or_eq_true, Bool.or_eq_false_iff, Bool.and_eq_true, Bool.and_eq_false_iff, Bool.not_eq_true', Bool.not_eq_false', Bool.not_eq_true, Bool.not_eq_false, Bool.not_true, Bool.not_false, Int.not_lt, Int.not_le, not_or, not_and, Classical.not_not] at h14
      obtain ⟨a, hx1, hx2⟩ := hl.at (i := i) (by omega)
      obtain ⟨b, hy1, hy2⟩ := hm.at (i := i) (by omega)
      refine T_skip_go (fun _ _ h => h) ?_
      refine T_seq ?_
      refine T_block ?_
      refine T_seq ?_
      refine T_region ?_
      refine S_ 15 rfl rfl rfl _ (y_move rfl rfl) ?_
      refine S_ 5 rfl rfl rfl _ (y_assign rfl rfl) ?_
      refine S_go (fun _ _ h => h) ?_
      refine T_seq ?_
      refine T_draws (by kernel_rfl) (by kernel_rfl) ?_
      refine D_ 16 rfl rfl rfl _ (y_move rfl rfl) ?_
      refine D_ 17 rfl rfl rfl _ (y_move rfl rfl) ?_
      refine D_ 18 rfl rfl rfl _ (y_indexAddr rfl rfl rfl Tryz.underlying48 sz116 (fun hg => hl.isSome (by omega)) (fun _ => by omega)) ?_
      refine D_ 19 rfl rfl rfl _ (y_loadT rfl rfl hl (fun _ => rfl) (fun _ => hx1) Tryz.underlying116 rfl sz116) ?_
      refine D_ 20 rfl rfl rfl _ (y_move rfl rfl) ?_
      refine D_ 21 rfl rfl rfl _ (y_move rfl rfl) ?_
      refine D_ 22 rfl rfl rfl _ (y_indexAddr rfl rfl rfl Tryz.underlying48 sz116 (fun hg => hm.isSome (by omega)) (fun _ => by omega)) ?_
      refine D_ 23 rfl rfl rfl _ (y_loadT rfl rfl hm (fun _ => rfl) (fun _ => hy1) Tryz.underlying116 rfl sz116) ?_
      refine D_ 24 rfl rfl rfl _ (y_as (v' := .bool (!(Frm.eqB a b))) (by simp [Frm.eqB, str]) (y_bin rfl rfl rfl (fun _ => b_neqA (rs := [_, _, _, _, _, _]) Tryz.underlying116 (by kernel_rfl) (by kernel_rfl) ⟨by decide, ⟨_, Tryz.underlying9, rfl, _, _, rfl, rfl, rfl⟩, by decide, ⟨_, Tryz.underlying9, rfl, _, _, rfl, rfl, rfl⟩, by decide, ⟨_, Tryz.underlying9, rfl, _, _, rfl, rfl, rfl⟩, by decide, ⟨_, Tryz.underlying3, rfl, _, _, rfl, rfl, rfl⟩, by decide, ⟨_, Tryz.underlying3, rfl, _, _, rfl, rfl, rfl⟩, by decide, ⟨_, Tryz.underlying4, rfl, _, _, rfl, rfl, rfl⟩, trivial⟩))) ?_
      refine D_go (fun _ _ h => h) ?_
      refine T_cond rfl (fun h24 => ?_) (fun h24 => ?_)
      · skip
        have h24e : Frm.eqB a b = false := by simpa using h24
        refine T_seq ?_
        refine T_region ?_
        refine S_ 4 rfl rfl rfl _ (y_assign rfl rfl) ?_
        refine S_go (fun _ _ h => h) ?_
        refine T_ret (fun a w hF hM => hRb a w (post1 rfl rfl (fun w hM => ?_) a w hF hM))
        exact ⟨by rw [hp2, hx2, hy2, eqLB, h24e, Bool.false_and], hM.below⟩
      · skip
        have h24e : Frm.eqB a b = true := by simpa using h24
        refine T_skip_go (fun _ _ h => h) ?_
        refine T_region ?_
        refine S_ 25 rfl rfl rfl _ (y_bin rfl rfl rfl (fun hg => b_add (by omega))) ?_
        refine S_ 13 rfl rfl rfl _ (y_move rfl rfl) ?_
        refine S_nil (nextK1 (kf := [(4, 5), (13, 25)]) (kl := [(4, 5), (13, 25)]) (i + 1) (by repeat (first | exact kf_nil | (apply kf_in; focus rfl) | (apply kf_out; focus rfl))) (by repeat (first | exact kl_nil | exact kl_rest (by assumption) rfl | (apply kl_in; focus rfl) | (apply kl_out; focus rfl))) ?_ ?_ ?_ ?_)
        · omega
        · exact ⟨by omega, by rw [hp2, hx2, hy2, eqLB, h24e, Bool.true_and]⟩
        · exact ⟨rfl, trivial⟩
        · exact trivial
    · try simp only [decide_eq_true_eq, decide_eq_false_iff_not, Bool.or_eq_true, Bool.or_eq_false_iff, Bool.and_eq_true, Bool.and_eq_false_iff, Bool.not_eq_true', Bool.not_eq_false', Bool.not_eq_true, Bool.not_eq_false, Bool.not_true, Bool.not_false, Int.not_lt, Int.not_le, not_or, not_and, Classical.not_not] at h14
      refine T_exit_go (fun _ _ h => h) ?_
      refine T_seq ?_
      refine T_region ?_
      refine S_ 4 rfl rfl rfl _ (y_assign rfl rfl) ?_
      refine S_go (fun _ _ h => h) ?_
      refine T_ret (fun a w hF hM => hRb a w (post1 rfl rfl (fun w hM => ?_) a w hF hM))
      exact ⟨by rw [hp2, hl.end (by omega), hm.end (by omega)]; rfl, hM.below⟩
theorem EqualTg_any (A B : Option Addr) (q c p d : Nat) (l m : List (STag)) (w : World) (hl : SlT STag.enc 2 w A q l) (hm : SlT STag.enc 2 w B p m) (hq : q ≤ 4611686018427387904) (hp : p ≤ 4611686018427387904) :
    Calls Tryz.prog 80 #[.slice A q c, .slice B p d] w fun e w' => e = .returned (.bool (eqLB STag.eqB l m)) ∧ Below w.heap.size w w' := by
  have hlen := hl.len
  have hmen := hm.len
  refine enter_args (args := [.slice A q c, .slice B p d]) (F := _) Tryz.func80 rfl Tryz.ntmps80 rfl rfl ?_
  intro Rb hRb hRn
  refine T_seq ?_
  refine T_region ?_
  refine S_ 4 rfl rfl rfl _ (y_assign rfl rfl) ?_
  refine S_go (fun _ _ h => h) ?_
  refine T_seq ?_
  refine T_seq ?_
  refine T_region ?_
  refine S_ 6 rfl rfl rfl _ (y_move rfl rfl) ?_
  refine S_ 7 rfl rfl rfl _ (y_len_slice rfl rfl Tryz.underlying26) ?_
  refine S_ 8 rfl rfl rfl _ (y_move rfl rfl) ?_
  refine S_ 9 rfl rfl rfl _ (y_len_slice rfl rfl Tryz.underlying26) ?_
  refine S_ 10 rfl rfl rfl _ (y_bin rfl rfl rfl (fun _ => b_neq)) ?_
  refine S_go (fun _ _ h => h) ?_
  refine T_cond rfl (fun h10 => ?_) (fun h10 => ?_)
  · try simp only [decide_eq_true_eq, decide_eq_false_iff_not, Bool.or_eq_true, Bool.or_eq_false_iff, Bool.and_eq_true, Bool.and_eq_false_iff, Bool.not_eq_true', Bool.not_eq_false', Bool.not_eq_true, Bool.not_eq_false, Bool.not_true, Bool.not_false, Int.not_lt, Int.not_le, not_or, not_and, Classical.not_not] at h10
    refine T_seq ?_
    refine T_region ?_
    refine S_ 4 rfl rfl rfl _ (y_assign rfl rfl) ?_
    refine S_go (fun _ _ h => h) ?_
    refine T_ret (fun a w hF hM => hRb a w (post1 rfl rfl (fun w hM => ?_) a w hF hM))
    exact ⟨by rw [eqLB_len l m (by omega)], hM.below⟩
  · try simp only [decide_eq_true_eq, decide_eq_false_iff_not, Bool.or_eq_true, Bool.or_eq_false_iff, Bool.and_eq_true, Bool.and_eq_false_iff, Bool.not_eq_true', Bool.not_eq_false', Bool.not_eq_true, Bool.not_eq_false, Bool.not_true, Bool.not_false, Int.not_lt, Int.not_le, not_or, not_and, Classical.not_not] at h10
    refine T_skip_go (fun _ _ h => h) ?_
    refine T_seq ?_
    refine T_seq ?_
    refine T_region ?_
    refine S_ 11 rfl rfl rfl _ (y_move rfl rfl) ?_
    refine S_ 12 rfl rfl rfl _ (y_len_slice rfl rfl Tryz.underlying26) ?_
    refine S_ 13 rfl rfl rfl _ (y_move rfl rfl) ?_
    refine S_go (fun _ _ h => h) ?_
    refine T_block ?_
    refine T_loopK1 (kf := [(4, 5), (13, 25)]) (kl := [(4, 5), (13, 25)]) (fun (i : Nat) => [(13, true, .int .i64 (i : Int))]) (fun (i : Nat) => []) (fun (i : Nat) => i ≤ q ∧ eqLB STag.eqB l m = eqLB STag.eqB (l.drop i) (m.drop i)) (fun (i : Nat) => q - i) 0 (by repeat (first | exact kf_nil | (apply kf_in; focus rfl) | (apply kf_out; focus rfl))) (by repeat (first | exact kl_nil | exact kl_rest (by assumption) rfl | (apply kl_in; focus rfl) | (apply kl_out; focus rfl))) ?_ ?_ ?_ ?_
    · exact ⟨by omega, rfl⟩
    · exact ⟨rfl, trivial⟩
    · exact trivial
    rintro i ⟨hp1, hp2⟩
    refine T_seq ?_
    refine T_region ?_
    refine S_ 14 rfl rfl rfl _ (y_bin rfl rfl rfl (fun _ => b_lss)) ?_
    refine S_go (fun _ _ h => h) ?_
    refine T_seq ?_
    refine T_cond rfl (fun h14 => ?_) (fun h14 => ?_)
    · try simp only [decide_eq_true_eq, decide_eq_false_iff_not, Bool.or_eq_true, Bool.or_eq_false_iff, Bool.and_eq_true, Bool.and_eq_false_iff, Bool.not_eq_true', Bool.not_eq_false', Bool.not_eq_true, Bool.not_eq_false, Bool.not_true, Bool.not_false, Int.not_lt, Int.not_le, not_or, not_and, Classical.not_not] at h14
      obtain ⟨a, hx1, hx2⟩ := hl.at (i := i) (by omega)
      obtain ⟨b, hy1, hy2⟩ := hm.at (i := i) (by omega)
      refine T_skip_go (fun _ _ h => h) ?_
      refine T_seq ?_
      refine T_block ?_
      refine T_seq ?_
      refine T_region ?_
      refine S_ 15 rfl rfl rfl _ (y_move rfl rfl) ?_
      refine S_ 5 rfl rfl rfl _ (y_assign rfl rfl) ?_
      refine S_go (fun _ _ h => h) ?_
      refine T_seq ?_
      refine T_draws (by kernel_rfl) (by kernel_rfl) ?_
      refine D_ 16 rfl rfl rfl _ (y_move rfl rfl) ?_
      refine D_ 17 rfl rfl rfl _ (y_move rfl rfl) ?_
      refine D_ 18 rfl rfl rfl _ (y_indexAddr rfl rfl rfl Tryz.underlying26 sz104 (fun hg => hl.isSome (by omega)) (fun _ => by omega)) ?_
      refine D_ 19 rfl rfl rfl _ (y_loadT rfl rfl hl (fun _ => rfl) (fun _ => hx1) Tryz.underlying104 rfl sz104) ?_
      refine D_ 20 rfl rfl rfl _ (y_move rfl rfl) ?_
      refine D_ 21 rfl rfl rfl _ (y_move rfl rfl) ?_
      refine D_ 22 rfl rfl rfl _ (y_indexAddr rfl rfl rfl Tryz.underlying26 sz104 (fun hg => hm.isSome (by omega)) (fun _ => by omega)) ?_
      refine D_ 23 rfl rfl rfl _ (y_loadT rfl rfl hm (fun _ => rfl) (fun _ => hy1) Tryz.underlying104 rfl sz104) ?_
      refine D_ 24 rfl rfl rfl _ (y_as (v' := .bool (!(STag.eqB a b))) (by simp [STag.eqB, str]) (y_bin rfl rfl rfl (fun _ => b_neqA (rs := [_, _]) Tryz.underlying104 (by kernel_rfl) (by kernel_rfl) ⟨by decide, ⟨_, Tryz.underlying9, rfl, _, _, rfl, rfl, rfl⟩, by decide, ⟨_, Tryz.underlying9, rfl, _, _, rfl, rfl, rfl⟩, trivial⟩))) ?_
      refine D_go (fun _ _ h => h) ?_
      refine T_cond rfl (fun h24 => ?_) (fun h24 => ?_)
      · skip
        have h24e : STag.eqB a b = false := by simpa using h24
        refine T_seq ?_
        refine T_region ?_
        refine S_ 4 rfl rfl rfl _ (y_assign rfl rfl) ?_
        refine S_go (fun _ _ h => h) ?_
        refine T_ret (fun a w hF hM => hRb a w (post1 rfl rfl (fun w hM => ?_) a w hF hM))
        exact ⟨by rw [hp2, hx2, hy2, eqLB, h24e, Bool.false_and], hM.below⟩
      · skip
        have h24e : STag.eqB a b = true := by simpa using h24
        refine T_skip_go (fun _ _ h => h) ?_
        refine T_region ?_
        refine S_ 25 rfl rfl rfl _ (y_bin rfl rfl rfl (fun hg => b_add (by omega))) ?_
        refine S_ 13 rfl rfl rfl _ (y_move rfl rfl) ?_
        refine S_nil (nextK1 (kf := [(4, 5), (13, 25)]) (kl := [(4, 5), (13, 25)]) (i + 1) (by repeat (first | exact kf_nil | (apply kf_in; focus rfl) | (apply kf_out; focus rfl))) (by repeat (first | exact kl_nil | exact kl_rest (by assumption) rfl | (apply kl_in; focus rfl) | (apply kl_out; focus rfl))) ?_ ?_ ?_ ?_)
        · omega
        · exact ⟨by omega, by rw [hp2, hx2, hy2, eqLB, h24e, Bool.true_and]⟩
        · exact ⟨rfl, trivial⟩
        · exact trivial
    · try simp only [decide_eq_true_eq, decide_eq_false_iff_not, Bool.or_eq_true, Bool.or_eq_false_iff, Bool.and_eq_true, Bool.and_eq_false_iff, Bool.not_eq_true', Bool.not_eq_false', Bool.not_eq_true, Bool.not_eq_false, Bool.not_true, Bool.not_false, Int.not_lt, Int.not_le, not_or, not_and, Classical.not_not] at h14
      refine T_exit_go (fun _ _ h => h) ?_
      refine T_seq ?_
      refine T_region ?_
      refine S_ 4 rfl rfl rfl _ (y_assign rfl rfl) ?_
      refine S_go (fun _ _ h => h) ?_
      refine T_ret (fun a w hF hM => hRb a w (post1 rfl rfl (fun w hM => ?_) a w hF hM))
      exact ⟨by rw [hp2, hl.end (by omega), hm.end (by omega)]; rfl, hM.below⟩
theorem EqualCr_any (A B : Option Addr) (q c p d : Nat) (l m : List (SCrumb)) (w : World) (hl : SlT SCrumb.enc 3 w A q l) (hm : SlT SCrumb.enc 3 w B p m) (hq : q ≤ 4611686018427387904) (hp : p ≤ 4611686018427387904) :
    Calls Tryz.prog 81 #[.slice A q c, .slice B p d] w fun e w' => e = .returned (.bool (eqLB SCrumb.eqB l m)) ∧ Below w.heap.size w w' := by
  have hlen := hl.len
  have hmen := hm.len
  refine enter_args (args := [.slice A q c, .slice B p d]) (F := _) Tryz.func81 rfl Tryz.ntmps81 rfl rfl ?_
  intro Rb hRb hRn
  refine T_seq ?_
  refine T_region ?_
  refine S_ 4 rfl rfl rfl _ (y_assign rfl rfl) ?_
  refine S_go (fun _ _ h => h) ?_
  refine T_seq ?_
  refine T_seq ?_
  refine T_region ?_
  refine S_ 6 rfl rfl rfl _ (y_move rfl rfl) ?_
  refine S_ 7 rfl rfl rfl _ (y_len_slice rfl rfl Tryz.underlying27) ?_
  refine S_ 8 rfl rfl rfl _ (y_move rfl rfl) ?_
  refine S_ 9 rfl rfl rfl _ (y_len_slice rfl rfl Tryz.underlying27) ?_
  refine S_ 10 rfl rfl rfl _ (y_bin rfl rfl rfl (fun _ => b_neq)) ?_
  refine S_go (fun _ _ h => h) ?_
  refine T_cond rfl (fun h10 => ?_) (fun h10 => ?_)
  · try simp only [decide_eq_true_eq, decide_eq_false_iff_not, Bool.or_eq_true, Bool.or_eq_false_iff, Bool.and_eq_true, Bool.and_eq_false_iff, Bool.not_eq_true', Bool.not_eq_false', Bool.not_eq_true, Bool.not_eq_false, Bool.not_true, Bool.not_false, Int.not_lt, Int.not_le, not_or, not_and, Classical.not_not] at h10
    refine T_seq ?_
    refine T_region ?_
    refine S_ 4 rfl rfl rfl _ (y_assign rfl rfl) ?_
    refine S_go (fun _ _ h => h) ?_
    refine T_ret (fun a w hF hM => hRb a w (post1 rfl rfl (fun w hM => ?_) a w hF hM))
    exact ⟨by rw [eqLB_len l m (by omega)], hM.below⟩
  · try simp only [decide_eq_true_eq, decide_eq_false_iff_not, Bool.or_eq_true, Bool.or_eq_false_iff, Bool.and_eq_true, Bool.and_eq_false_iff, Bool.not_eq_true', Bool.not_eq_false', Bool.not_eq_true, Bool.not_eq_false, Bool.not_true, Bool.not_false, Int.not_lt, Int.not_le, not_or, not_and, Classical.not_not] at h10
    refine T_skip_go (fun _ _ h => h) ?_
    refine T_seq ?_
    refine T_seq ?_
    refine T_region ?_
    refine S_ 11 rfl rfl rfl _ (y_move rfl rfl) ?_
    refine S_ 12 rfl rfl rfl _ (y_len_slice rfl rfl Tryz.underlying27) ?_
    refine S_ 13 rfl rfl rfl _ (y_move rfl rfl) ?_
    refine S_go (fun _ _ h => h) ?_
    refine T_block ?_
    refine T_loopK1 (kf := [(4, 5), (13, 25)]) (kl := [(4, 5), (13, 25)]) (fun (i : Nat) => [(13, true, .int .i64 (i : Int))]) (fun (i : Nat) => []) (fun (i : Nat) => i ≤ q ∧ eqLB SCrumb.eqB l m = eqLB SCrumb.eqB (l.drop i) (m.drop i)) (fun (i : Nat) => q - i) 0 (by repeat (first | exact kf_nil | (apply kf_in; focus rfl) | (apply kf_out; focus rfl))) (by repeat (first | exact kl_nil | exact kl_rest (by assumption) rfl | (apply kl_in; focus rfl) | (apply kl_out; focus rfl))) ?_ ?_ ?_ ?_
    · exact ⟨by omega, rfl⟩
    · exact ⟨rfl, trivial⟩
    · exact trivial
    rintro i ⟨hp1, hp2⟩
    refine T_seq ?_
    refine T_region ?_
    refine S_ 14 rfl rfl rfl _ (y_bin rfl rfl rfl (fun _ => b_lss)) ?_
    refine S_go (fun _ _ h => h) ?_
    refine T_seq ?_
    refine T_cond rfl (fun h14 => ?_) (fun h14 => ?_)
    · try simp only [decide_eq_true_eq, decide_eq_false_iff_not, Bool.or_eq_true, Bool.or_eq_false_iff, Bool.and_eq_true, Bool.and_eq_false_iff, Bool.not_eq_true', Bool.not_eq_false', Bool.not_eq_true, Bool.not_eq_false, Bool.not_true, Bool.not_false, Int.not_lt, Int.not_le, not_or, not_and, Classical.not_not] at h14
      obtain ⟨a, hx1, hx2⟩ := hl.at (i := i) (by omega)
      obtain ⟨b, hy1, hy2⟩ := hm.at (i := i) (by omega)
      refine T_skip_go (fun _ _ h => h) ?_
      refine T_seq ?_
      refine T_block ?_
      refine T_seq ?_
      refine T_region ?_
      refine S_ 15 rfl rfl rfl _ (y_move rfl rfl) ?_
      refine S_ 5 rfl rfl rfl _ (y_assign rfl rfl) ?_
      refine S_go (fun _ _ h => h) ?_
      refine T_seq ?_
      refine T_draws (by kernel_rfl) (by kernel_rfl) ?_
      refine D_ 16 rfl rfl rfl _ (y_move rfl rfl) ?_
      refine D_ 17 rfl rfl rfl _ (y_move rfl rfl) ?_
      refine D_ 18 rfl rfl rfl _ (y_indexAddr rfl rfl rfl Tryz.underlying27 sz107 (fun hg => hl.isSome (by omega)) (fun _ => by omega)) ?_
      refine D_ 19 rfl rfl rfl _ (y_loadT rfl rfl hl (fun _ => rfl) (fun _ => hx1) Tryz.underlying107 rfl sz107) ?_
      refine D_ 20 rfl rfl rfl _ (y_move rfl rfl) ?_
      refine D_ 21 rfl rfl rfl _ (y_move rfl rfl) ?_
      refine D_ 22 rfl rfl rfl _ (y_indexAddr rfl rfl rfl Tryz.underlying27 sz107 (fun hg => hm.isSome (by omega)) (fun _ => by omega)) ?_
      refine D_ 23 rfl rfl rfl _ (y_loadT rfl rfl hm (fun _ => rfl) (fun _ => hy1) Tryz.underlying107 rfl sz107) ?_
      refine D_ 24 rfl rfl rfl _ (y_as (v' := .bool (!(SCrumb.eqB a b))) (by simp [SCrumb.eqB, str]) (y_bin rfl rfl rfl (fun _ => b_neqA (rs := [_, _, _]) Tryz.underlying107 (by kernel_rfl) (by kernel_rfl) ⟨by decide, ⟨_, Tryz.underlying3, rfl, _, _, rfl, rfl, rfl⟩, by decide, ⟨_, Tryz.underlying9, rfl, _, _, rfl, rfl, rfl⟩, by decide, ⟨_, Tryz.underlying9, rfl, _, _, rfl, rfl, rfl⟩, trivial⟩))) ?_
      refine D_go (fun _ _ h => h) ?_
      refine T_cond rfl (fun h24 => ?_) (fun h24 => ?_)
      · skip
        have h24e : SCrumb.eqB a b = false := by simpa using h24
        refine T_seq ?_
        refine T_region ?_
        refine S_ 4 rfl rfl rfl _ (y_assign rfl rfl) ?_
        refine S_go (fun _ _ h => h) ?_
        refine T_ret (fun a w hF hM => hRb a w (post1 rfl rfl (fun w hM => ?_) a w hF hM))
        exact ⟨by rw [hp2, hx2, hy2, eqLB, h24e, Bool.false_and], hM.below⟩
      · skip
        have h24e : SCrumb.eqB a b = true := by simpa using h24
        refine T_skip_go (fun _ _ h => h) ?_
        refine T_region ?_
        refine S_ 25 rfl rfl rfl _ (y_bin rfl rfl rfl (fun hg => b_add (by omega))) ?_
        refine S_ 13 rfl rfl rfl _ (y_move rfl rfl) ?_
        refine S_nil (nextK1 (kf := [(4, 5), (13, 25)]) (kl := [(4, 5), (13, 25)]) (i + 1) (by repeat (first | exact kf_nil | (apply kf_in; focus rfl) | (apply kf_out; focus rfl))) (by repeat (first | exact kl_nil | exact kl_rest (by assumption) rfl | (apply kl_in; focus rfl) | (apply kl_out; focus rfl))) ?_ ?_ ?_ ?_)
        · omega
        · exact ⟨by omega, by rw [hp2, hx2, hy2, eqLB, h24e, Bool.true_and]⟩
        · exact ⟨rfl, trivial⟩
        · exact trivial
    · try simp only [decide_eq_true_eq, decide_eq_false_iff_not, Bool.or_eq_true, Bool.or_eq_false_iff, Bool.and_eq_true, Bool.and_eq_false_iff, Bool.not_eq_true', Bool.not_eq_false', Bool.not_eq_true, Bool.not_eq_false, Bool.not_true, Bool.not_false, Int.not_lt, Int.not_le, not_or, not_and, Classical.not_not] at h14
      refine T_exit_go (fun _ _ h => h) ?_
      refine T_seq ?_
      refine T_region ?_
      refine S_ 4 rfl rfl rfl _ (y_assign rfl rfl) ?_
      refine S_go (fun _ _ h => h) ?_
      refine T_ret (fun a w hF hM => hRb a w (post1 rfl rfl (fun w hM => ?_) a w hF hM))
      exact ⟨by rw [hp2, hl.end (by omega), hm.end (by omega)]; rfl, hM.below⟩
def Flt.eqB (x y : Flt) : Bool := decide (x.k = y.k) && decide (x.t = y.t) && eqLB Frm.eqB x.fr.l y.fr.l
theorem sameFlt_any (x y : Flt) (w : World) (hx : FltOk w x) (hy : FltOk w y) :
    Calls Tryz.prog 175 #[x.val, y.val] w fun e w' => e = .returned (.bool (Flt.eqB x y)) ∧ Below w.heap.size w w' := by
  have hxq := hx.fr.q
  have hyq := hy.fr.q
  refine enter_args (args := [.agg #[str x.k, str x.t, .slice x.fr.A x.fr.q x.fr.c], .agg #[str y.k, str y.t, .slice y.fr.A y.fr.q y.fr.c]]) (F := _) Tryz.func175 rfl Tryz.ntmps175 rfl rfl ?_
  intro Rb hRb hRn
  refine T_seq ?_
  refine T_region ?_
  refine S_box 2 2 rfl rfl rfl rfl rfl ?_
  intro b2
  refine S_box 3 3 rfl rfl rfl rfl rfl ?_
  intro b3
  refine S_ 4 rfl rfl rfl _ (y_assign rfl rfl) ?_
  refine S_go (fun _ _ h => h) ?_
  refine T_seq ?_
  refine T_region ?_
  refine S_ 5 rfl rfl rfl _ (y_fieldAddr rfl rfl fa50_0) ?_
  refine S_ 6 rfl rfl rfl _ (y_load 2 rfl rfl rfl rfl Tryz.underlying9 rfl) ?_
  refine S_ 7 rfl rfl rfl _ (y_fieldAddr rfl rfl fa50_0) ?_
  refine S_ 8 rfl rfl rfl _ (y_load 3 rfl rfl rfl rfl Tryz.underlying9 rfl) ?_
  refine S_ 9 rfl rfl rfl _ (y_bin rfl rfl rfl (fun _ => b_eqls)) ?_
  refine S_ 10 rfl rfl rfl _ (y_move rfl rfl) ?_
  refine Sg_ 11 rfl rfl rfl rfl rfl rfl _ (y_fieldAddr rfl rfl fa50_1) ?_
  refine Sg_ 12 rfl rfl rfl rfl rfl rfl _ (y_load 2 rfl rfl rfl rfl Tryz.underlying9 rfl) ?_
  refine Sg_ 13 rfl rfl rfl rfl rfl rfl _ (y_fieldAddr rfl rfl fa50_1) ?_
  refine Sg_ 14 rfl rfl rfl rfl rfl rfl _ (y_load 3 rfl rfl rfl rfl Tryz.underlying9 rfl) ?_
  refine Sg_ 15 rfl rfl rfl rfl rfl rfl _ (y_bin rfl rfl rfl (fun _ => b_eqls)) ?_
  refine S_ 16 rfl rfl rfl _ (y_and rfl rfl rfl) ?_
  refine S_ 17 rfl rfl rfl _ (y_move rfl rfl) ?_
  refine Sg_ 18 rfl rfl rfl rfl rfl rfl _ (y_fieldAddr rfl rfl fa50_2) ?_
  refine Sg_ 19 rfl rfl rfl rfl rfl rfl _ (y_load 2 rfl rfl rfl rfl Tryz.underlying48 rfl) ?_
  refine Sg_ 20 rfl rfl rfl rfl rfl rfl _ (y_fieldAddr rfl rfl fa50_2) ?_
  refine Sg_ 21 rfl rfl rfl rfl rfl rfl _ (y_load 3 rfl rfl rfl rfl Tryz.underlying48 rfl) ?_
  refine Sg_ 22 rfl rfl rfl rfl rfl rfl _ (y_call rfl rfl rfl cf176 (fun _ w hM => EqualFr_any _ _ _ _ _ _ _ _ w (hx.fr.ok.t.below hM.below) (hy.fr.ok.t.below hM.below) hxq hyq)) ?_
  refine S_ 23 rfl rfl rfl _ (y_and rfl rfl rfl) ?_
  refine S_ 4 rfl rfl rfl _ (y_assign rfl rfl) ?_
  refine S_go (fun _ _ h => h) ?_
  refine T_ret (fun a w hF hM => hRb a w (post1 rfl rfl (fun w hM => ?_) a w hF hM))
  exact ⟨rfl, hM.below⟩
theorem EqualFuncFlt_any (l m : Sl Flt) (g : FuncId) (cap : Array Value) (w : World) (hl : FltsOk w l) (hm : FltsOk w m) (hcf : ∀ args w, (callFunc g args).run Tryz.prog w = .ok (.enter g args) w)
    (hA : ∀ x y w', Below w.heap.size w w' → FltOk w' x → FltOk w' y → Calls Tryz.prog g (#[x.val, y.val] ++ cap) w' fun e w'' => e = .returned (.bool (Flt.eqB x y)) ∧ Below w'.heap.size w' w'') :
    Calls Tryz.prog 86 #[.slice l.A l.q l.c, .slice m.A m.q m.c, .func (.func g) #[] cap] w fun e w' => e = .returned (.bool (eqLB Flt.eqB l.l m.l)) ∧ Below w.heap.size w w' := by
  have ht := hl.ok.t
  have hu := hm.ok.t
  have hq := hl.q
  have hp := hm.q
  have hlen := ht.len
  have hmen := hu.len
  refine enter_args (args := [.slice l.A l.q l.c, .slice m.A m.q m.c, .func (.func g) #[] cap]) (F := _) Tryz.func86 rfl Tryz.ntmps86 rfl rfl ?_
  intro Rb hRb hRn
  refine T_seq ?_
  refine T_region ?_
  refine S_ 6 rfl rfl rfl _ (y_assign rfl rfl) ?_
  refine S_go (fun _ _ h => h) ?_
  refine T_seq ?_
  refine T_seq ?_
  refine T_region ?_
  refine S_ 10 rfl rfl rfl _ (y_move rfl rfl) ?_
  refine S_ 11 rfl rfl rfl _ (y_len_slice rfl rfl Tryz.underlying25) ?_
  refine S_ 12 rfl rfl rfl _ (y_move rfl rfl) ?_
  refine S_ 13 rfl rfl rfl _ (y_len_slice rfl rfl Tryz.underlying25) ?_
  refine S_ 14 rfl rfl rfl _ (y_bin rfl rfl rfl (fun _ => b_neq)) ?_
  refine S_go (fun _ _ h => h) ?_
  refine T_cond rfl (fun h14 => ?_) (fun h14 => ?_)
  · try simp only [decide_eq_true_eq, decide_eq_false_iff_not, Bool.or_eq_true, Bool.or_eq_false_iff, Bool.and_eq_true, Bool.and_eq_false_iff, Bool.not_eq_true', Bool.not_eq_false', Bool.not_eq_true, Bool.not_eq_false, Bool.not_true, Bool.not_false, Int.not_lt, Int.not_le, not_or, not_and, Classical.not_not] at h14
    refine T_seq ?_
    refine T_region ?_
    refine S_ 6 rfl rfl rfl _ (y_assign rfl rfl) ?_
    refine S_go (fun _ _ h => h) ?_
    refine T_ret (fun a w hF hM => hRb a w (post1 rfl rfl (fun w hM => ?_) a w hF hM))
    exact ⟨by rw [eqLB_len l.l m.l (by omega)], hM.below⟩
  · try simp only [decide_eq_true_eq, decide_eq_false_iff_not, Bool.or_eq_true, Bool.or_eq_false_iff, Bool.and_eq_true, Bool.and_eq_false_iff, Bool.not_eq_true', Bool.not_eq_false', Bool.not_eq_true, Bool.not_eq_false, Bool.not_true, Bool.not_false, Int.not_lt, Int.not_le, not_or, not_and, Classical.not_not] at h14
    refine T_skip_go (fun _ _ h => h) ?_
    refine T_seq ?_
    refine T_seq ?_
    refine T_region ?_
    refine S_ 15 rfl rfl rfl _ (y_move rfl rfl) ?_
    refine S_ 16 rfl rfl rfl _ (y_len_slice rfl rfl Tryz.underlying25) ?_
    refine S_ 17 rfl rfl rfl _ (y_move rfl rfl) ?_
    refine S_go (fun _ _ h => h) ?_
    refine T_block ?_
    refine T_loopK1 (kf := [(6, 9), (17, 31)]) (kl := [(6, 9), (17, 31)]) (fun (i : Nat) => [(17, true, .int .i64 (i : Int))]) (fun (i : Nat) => []) (fun (i : Nat) => i ≤ l.q ∧ eqLB Flt.eqB l.l m.l = eqLB Flt.eqB (l.l.drop i) (m.l.drop i)) (fun (i : Nat) => l.q - i) 0 (by repeat (first | exact kf_nil | (apply kf_in; focus rfl) | (apply kf_out; focus rfl))) (by repeat (first | exact kl_nil | exact kl_rest (by assumption) rfl | (apply kl_in; focus rfl) | (apply kl_out; focus rfl))) ?_ ?_ ?_ ?_
    · exact ⟨by omega, rfl⟩
    · exact ⟨rfl, trivial⟩
    · exact trivial
    rintro i ⟨hp1, hp2⟩
    refine T_seq ?_
    refine T_region ?_
    refine S_ 18 rfl rfl rfl _ (y_bin rfl rfl rfl (fun _ => b_lss)) ?_
    refine S_go (fun _ _ h => h) ?_
    refine T_seq ?_
    refine T_cond rfl (fun h18 => ?_) (fun h18 => ?_)
    · try simp only [decide_eq_true_eq, decide_eq_false_iff_not, Bool.or_eq_true, Bool.or_eq_false_iff, Bool.and_eq_true, Bool.and_eq_false_iff, Bool.not_eq_true', Bool.not_eq_false', Bool.not_eq_true, Bool.not_eq_false, Bool.not_true, Bool.not_false, Int.not_lt, Int.not_le, not_or, not_and, Classical.not_not] at h18
      obtain ⟨x, hx1, hx2⟩ := ht.at (i := i) (by omega)
      obtain ⟨y, hy1, hy2⟩ := hu.at (i := i) (by omega)
      refine T_skip_go (fun _ _ h => h) ?_
      refine T_seq ?_
      refine T_block ?_
      refine T_seq ?_
      refine T_region ?_
      refine S_ 19 rfl rfl rfl _ (y_move rfl rfl) ?_
      refine S_ 20 rfl rfl rfl _ (y_indexAddr rfl rfl rfl Tryz.underlying25 sz50 (fun hg => ht.isSome (by omega)) (fun _ => by omega)) ?_
      refine S_ 21 rfl rfl rfl _ (y_loadT rfl rfl ht (fun _ => rfl) (fun _ => hx1) Tryz.underlying50 rfl sz50) ?_
      refine S_alloc 8 8 rfl rfl rfl rfl z50 ?_
      intro b8
      refine S_ 7 rfl rfl rfl _ (y_assign rfl rfl) ?_
      refine S_store 8 rfl rfl rfl rfl rfl rfl sz50 rfl rfl ?_
      refine S_go (fun _ _ h => h) ?_
      refine T_seq ?_
      refine T_region ?_
      refine S_ 22 rfl rfl rfl _ (y_move rfl rfl) ?_
      refine S_ 23 rfl rfl rfl _ (y_move rfl rfl) ?_
      refine S_ 24 rfl rfl rfl _ (y_indexAddr rfl rfl rfl Tryz.underlying25 sz50 (fun hg => hu.isSome (by omega)) (fun _ => by omega)) ?_
      refine S_ 25 rfl rfl rfl _ (y_loadT rfl rfl hu (fun _ => rfl) (fun _ => hy1) Tryz.underlying50 rfl sz50) ?_
      refine S_alloc 9 9 rfl rfl rfl rfl z50 ?_
      intro b9
      refine S_store 9 rfl rfl rfl rfl rfl rfl sz50 rfl rfl ?_
      refine S_go (fun _ _ h => h) ?_
      refine T_seq ?_
      refine T_region ?_
      refine S_ 26 rfl rfl rfl _ (y_move rfl rfl) ?_
      refine S_ 27 rfl rfl rfl _ (y_loadA 8 rfl rfl rfl Tryz.underlying50 rfl sz50) ?_
      refine S_ 28 rfl rfl rfl _ (y_loadA 9 rfl rfl rfl Tryz.underlying50 rfl sz50) ?_
      refine S_ 29 rfl rfl rfl _ (y_call rfl rfl rfl hcf (fun _ w hM => hA x y w hM.below ((hl.n x (mem_at hx1)).below hM.below) ((hm.n y (mem_at hy1)).below hM.below))) ?_
      refine S_ 30 rfl rfl rfl _ (y_not rfl rfl) ?_
      refine S_go (fun _ _ h => h) ?_
      refine T_cond rfl (fun h30 => ?_) (fun h30 => ?_)
      · try simp only [decide_eq_true_eq, decide_eq_false_iff_not, Bool.or_eq_true, Bool.or_eq_false_iff, Bool.and_eq_true, Bool.and_eq_false_iff, Bool.not_eq_true', Bool.not_eq_false', Bool.not_eq_true, Bool.not_eq_false, Bool.not_true, Bool.not_false, Int.not_lt, Int.not_le, not_or, not_and, Classical.not_not] at h30
        refine T_seq ?_
        refine T_region ?_
        refine S_ 6 rfl rfl rfl _ (y_assign rfl rfl) ?_
        refine S_go (fun _ _ h => h) ?_
        refine T_ret (fun a w hF hM => hRb a w (post1 rfl rfl (fun w hM => ?_) a w hF hM))
        exact ⟨by rw [hp2, hx2, hy2, eqLB, h30, Bool.false_and], hM.below⟩
      · try simp only [decide_eq_true_eq, decide_eq_false_iff_not, Bool.or_eq_true, Bool.or_eq_false_iff, Bool.and_eq_true, Bool.and_eq_false_iff, Bool.not_eq_true', Bool.not_eq_false', Bool.not_eq_true, Bool.not_eq_false, Bool.not_true, Bool.not_false, Int.not_lt, Int.not_le, not_or, not_and, Classical.not_not] at h30
        refine T_skip_go (fun _ _ h => h) ?_
        refine T_region ?_
        refine S_ 31 rfl rfl rfl _ (y_bin rfl rfl rfl (fun hg => b_add (by omega))) ?_
        refine S_ 17 rfl rfl rfl _ (y_move rfl rfl) ?_
        refine S_nil (nextK1 (kf := [(6, 9), (17, 31)]) (kl := [(6, 9), (17, 31)]) (i + 1) (by repeat (first | exact kf_nil | (apply kf_in; focus rfl) | (apply kf_out; focus rfl))) (by repeat (first | exact kl_nil | exact kl_rest (by assumption) rfl | (apply kl_in; focus rfl) | (apply kl_out; focus rfl))) ?_ ?_ ?_ ?_)
        · omega
        · exact ⟨by omega, by rw [hp2, hx2, hy2, eqLB, h30, Bool.true_and]⟩
        · exact ⟨rfl, trivial⟩
        · exact trivial
    · try simp only [decide_eq_true_eq, decide_eq_false_iff_not, Bool.or_eq_true, Bool.or_eq_false_iff, Bool.and_eq_true, Bool.and_eq_false_iff, Bool.not_eq_true', Bool.not_eq_false', Bool.not_eq_true, Bool.not_eq_false, Bool.not_true, Bool.not_false, Int.not_lt, Int.not_le, not_or, not_and, Classical.not_not] at h18
      refine T_exit_go (fun _ _ h => h) ?_
      refine T_seq ?_
      refine T_region ?_
      refine S_ 6 rfl rfl rfl _ (y_assign rfl rfl) ?_
      refine S_go (fun _ _ h => h) ?_
      refine T_ret (fun a w hF hM => hRb a w (post1 rfl rfl (fun w hM => ?_) a w hF hM))
      exact ⟨by rw [hp2, ht.end (by omega), hu.end (by omega)]; rfl, hM.below⟩
theorem sSame_any (l m : Sl Flt) (w : World) (hl : FltsOk w l) (hm : FltsOk w m) :
    Calls Tryz.prog 79 #[.slice l.A l.q l.c, .slice m.A m.q m.c] w fun e w' => e = .returned (.bool (eqLB Flt.eqB l.l m.l)) ∧ Below w.heap.size w w' := by
  refine enter_args (args := [.slice l.A l.q l.c, .slice m.A m.q m.c]) (F := _) Tryz.func79 rfl Tryz.ntmps79 rfl rfl ?_
  intro Rb hRb hRn
  refine T_seq ?_
  refine T_region ?_
  refine S_ 4 rfl rfl rfl _ (y_assign rfl rfl) ?_
  refine S_go (fun _ _ h => h) ?_
  refine T_seq ?_
  refine T_region ?_
  refine S_ 5 rfl rfl rfl _ (y_move rfl rfl) ?_
  refine S_ 6 rfl rfl rfl _ (y_move rfl rfl) ?_
  refine S_ 7 rfl rfl rfl _ (y_call rfl rfl rfl cf86 (fun _ w hM => EqualFuncFlt_any l m _ #[] w (hl.below hM.below) (hm.below hM.below) cf175 (fun x y w _ hx hy => sameFlt_any x y w hx hy))) ?_
  refine S_ 4 rfl rfl rfl _ (y_assign rfl rfl) ?_
  refine S_go (fun _ _ h => h) ?_
  refine T_ret (fun a w hF hM => hRb a w (post1 rfl rfl (fun w hM => ?_) a w hF hM))
  exact ⟨rfl, hM.below⟩
def sameE (a b : Evt) : Bool := decide (a.id = b.id) && decide (a.at_ = b.at_) && decide (a.lv = b.lv) && eqLB Flt.eqB a.fa.l b.fa.l && eqLB STag.eqB a.ta.l b.ta.l && eqLB SCrumb.eqB a.cr.l b.cr.l && decide (a.rel = b.rel) && decide (a.us = b.us) && decide (a.wt = b.wt)
theorem Same_any (a b : Evt) (w : World) (ha : a.Ok w) (hb : b.Ok w) :
    Calls Tryz.prog 16 #[a.val, b.val] w fun e w' => e = .returned (.bool (sameE a b)) ∧ Below w.heap.size w w' := by
  refine enter_args (args := [.agg #[str a.id, .int .i64 a.at_, .int .i64 a.lv, .slice a.fa.A a.fa.q a.fa.c, .slice a.ta.A a.ta.q a.ta.c, .slice a.cr.A a.cr.q a.cr.c, str a.rel, str a.us, .int .i64 a.wt], .agg #[str b.id, .int .i64 b.at_, .int .i64 b.lv, .slice b.fa.A b.fa.q b.fa.c, .slice b.ta.A b.ta.q b.ta.c, .slice b.cr.A b.cr.q b.cr.c, str b.rel, str b.us, .int .i64 b.wt]]) (F := _) Tryz.func16 rfl Tryz.ntmps16 rfl rfl ?_
  intro Rb hRb hRn
  refine T_seq ?_
  refine T_region ?_
  refine S_box 2 2 rfl rfl rfl rfl rfl ?_
  intro b2
  refine S_box 3 3 rfl rfl rfl rfl rfl ?_
  intro b3
  refine S_ 4 rfl rfl rfl _ (y_assign rfl rfl) ?_
  refine S_go (fun _ _ h => h) ?_
  refine T_seq ?_
  refine T_region ?_
  refine S_ 5 rfl rfl rfl _ (y_fieldAddr rfl rfl fa29_0) ?_
  refine S_ 6 rfl rfl rfl _ (y_load 2 rfl rfl rfl rfl Tryz.underlying9 rfl) ?_
  refine S_ 7 rfl rfl rfl _ (y_fieldAddr rfl rfl fa29_0) ?_
  refine S_ 8 rfl rfl rfl _ (y_load 3 rfl rfl rfl rfl Tryz.underlying9 rfl) ?_
  refine S_ 9 rfl rfl rfl _ (y_bin rfl rfl rfl (fun _ => b_eqls)) ?_
  refine S_ 10 rfl rfl rfl _ (y_move rfl rfl) ?_
  refine Sg_ 11 rfl rfl rfl rfl rfl rfl _ (y_fieldAddr rfl rfl fa29_1) ?_
  refine Sg_ 12 rfl rfl rfl rfl rfl rfl _ (y_load 2 rfl rfl rfl rfl Tryz.underlying3 rfl) ?_
  refine Sg_ 13 rfl rfl rfl rfl rfl rfl _ (y_fieldAddr rfl rfl fa29_1) ?_
  refine Sg_ 14 rfl rfl rfl rfl rfl rfl _ (y_load 3 rfl rfl rfl rfl Tryz.underlying3 rfl) ?_
  refine Sg_ 15 rfl rfl rfl rfl rfl rfl _ (y_bin rfl rfl rfl (fun _ => b_eql)) ?_
  refine S_ 16 rfl rfl rfl _ (y_and rfl rfl rfl) ?_
  refine S_ 17 rfl rfl rfl _ (y_move rfl rfl) ?_
  refine Sg_ 18 rfl rfl rfl rfl rfl rfl _ (y_fieldAddr rfl rfl fa29_2) ?_
  refine Sg_ 19 rfl rfl rfl rfl rfl rfl _ (y_load 2 rfl rfl rfl rfl Tryz.underlying3 rfl) ?_
  refine Sg_ 20 rfl rfl rfl rfl rfl rfl _ (y_fieldAddr rfl rfl fa29_2) ?_
  refine Sg_ 21 rfl rfl rfl rfl rfl rfl _ (y_load 3 rfl rfl rfl rfl Tryz.underlying3 rfl) ?_
  refine Sg_ 22 rfl rfl rfl rfl rfl rfl _ (y_bin rfl rfl rfl (fun _ => b_eql)) ?_
  refine S_ 23 rfl rfl rfl _ (y_and rfl rfl rfl) ?_
  refine S_ 24 rfl rfl rfl _ (y_move rfl rfl) ?_
  refine Sg_ 25 rfl rfl rfl rfl rfl rfl _ (y_fieldAddr rfl rfl fa29_3) ?_
  refine Sg_ 26 rfl rfl rfl rfl rfl rfl _ (y_load 2 rfl rfl rfl rfl Tryz.underlying25 rfl) ?_
  refine Sg_ 27 rfl rfl rfl rfl rfl rfl _ (y_fieldAddr rfl rfl fa29_3) ?_
  refine Sg_ 28 rfl rfl rfl rfl rfl rfl _ (y_load 3 rfl rfl rfl rfl Tryz.underlying25 rfl) ?_
  refine Sg_ 29 rfl rfl rfl rfl rfl rfl _ (y_call rfl rfl rfl cf79 (fun _ w hM => sSame_any a.fa b.fa w (ha.fa.below hM.below) (hb.fa.below hM.below))) ?_
  refine S_ 30 rfl rfl rfl _ (y_and rfl rfl rfl) ?_
  refine S_ 31 rfl rfl rfl _ (y_move rfl rfl) ?_
  refine Sg_ 32 rfl rfl rfl rfl rfl rfl _ (y_fieldAddr rfl rfl fa29_4) ?_
  refine Sg_ 33 rfl rfl rfl rfl rfl rfl _ (y_load 2 rfl rfl rfl rfl Tryz.underlying26 rfl) ?_
  refine Sg_ 34 rfl rfl rfl rfl rfl rfl _ (y_fieldAddr rfl rfl fa29_4) ?_
  refine Sg_ 35 rfl rfl rfl rfl rfl rfl _ (y_load 3 rfl rfl rfl rfl Tryz.underlying26 rfl) ?_
  refine Sg_ 36 rfl rfl rfl rfl rfl rfl _ (y_call rfl rfl rfl cf80 (fun _ w hM => EqualTg_any _ _ _ _ _ _ _ _ w (ha.ta.ok.t.below hM.below) (hb.ta.ok.t.below hM.below) ha.ta.q hb.ta.q)) ?_
  refine S_ 37 rfl rfl rfl _ (y_and rfl rfl rfl) ?_
  refine S_ 38 rfl rfl rfl _ (y_move rfl rfl) ?_
  refine Sg_ 39 rfl rfl rfl rfl rfl rfl _ (y_fieldAddr rfl rfl fa29_5) ?_
  refine Sg_ 40 rfl rfl rfl rfl rfl rfl _ (y_load 2 rfl rfl rfl rfl Tryz.underlying27 rfl) ?_
  refine Sg_ 41 rfl rfl rfl rfl rfl rfl _ (y_fieldAddr rfl rfl fa29_5) ?_
  refine Sg_ 42 rfl rfl rfl rfl rfl rfl _ (y_load 3 rfl rfl rfl rfl Tryz.underlying27 rfl) ?_
  refine Sg_ 43 rfl rfl rfl rfl rfl rfl _ (y_call rfl rfl rfl cf81 (fun _ w hM => EqualCr_any _ _ _ _ _ _ _ _ w (ha.cr.ok.t.below hM.below) (hb.cr.ok.t.below hM.below) ha.cr.q hb.cr.q)) ?_
  refine S_ 44 rfl rfl rfl _ (y_and rfl rfl rfl) ?_
  refine S_ 45 rfl rfl rfl _ (y_move rfl rfl) ?_
  refine Sg_ 46 rfl rfl rfl rfl rfl rfl _ (y_fieldAddr rfl rfl fa29_6) ?_
  refine Sg_ 47 rfl rfl rfl rfl rfl rfl _ (y_load 2 rfl rfl rfl rfl Tryz.underlying9 rfl) ?_
  refine Sg_ 48 rfl rfl rfl rfl rfl rfl _ (y_fieldAddr rfl rfl fa29_6) ?_
  refine Sg_ 49 rfl rfl rfl rfl rfl rfl _ (y_load 3 rfl rfl rfl rfl Tryz.underlying9 rfl) ?_
  refine Sg_ 50 rfl rfl rfl rfl rfl rfl _ (y_bin rfl rfl rfl (fun _ => b_eqls)) ?_
  refine S_ 51 rfl rfl rfl _ (y_and rfl rfl rfl) ?_
  refine S_ 52 rfl rfl rfl _ (y_move rfl rfl) ?_
  refine Sg_ 53 rfl rfl rfl rfl rfl rfl _ (y_fieldAddr rfl rfl fa29_7) ?_
  refine Sg_ 54 rfl rfl rfl rfl rfl rfl _ (y_load 2 rfl rfl rfl rfl Tryz.underlying9 rfl) ?_
  refine Sg_ 55 rfl rfl rfl rfl rfl rfl _ (y_fieldAddr rfl rfl fa29_7) ?_
  refine Sg_ 56 rfl rfl rfl rfl rfl rfl _ (y_load 3 rfl rfl rfl rfl Tryz.underlying9 rfl) ?_
  refine Sg_ 57 rfl rfl rfl rfl rfl rfl _ (y_bin rfl rfl rfl (fun _ => b_eqls)) ?_
  refine S_ 58 rfl rfl rfl _ (y_and rfl rfl rfl) ?_
  refine S_ 59 rfl rfl rfl _ (y_move rfl rfl) ?_
  refine Sg_ 60 rfl rfl rfl rfl rfl rfl _ (y_fieldAddr rfl rfl fa29_8) ?_
  refine Sg_ 61 rfl rfl rfl rfl rfl rfl _ (y_load 2 rfl rfl rfl rfl Tryz.underlying3 rfl) ?_
  refine Sg_ 62 rfl rfl rfl rfl rfl rfl _ (y_fieldAddr rfl rfl fa29_8) ?_
  refine Sg_ 63 rfl rfl rfl rfl rfl rfl _ (y_load 3 rfl rfl rfl rfl Tryz.underlying3 rfl) ?_
  refine Sg_ 64 rfl rfl rfl rfl rfl rfl _ (y_bin rfl rfl rfl (fun _ => b_eql)) ?_
  refine S_ 65 rfl rfl rfl _ (y_and rfl rfl rfl) ?_
  refine S_ 4 rfl rfl rfl _ (y_assign rfl rfl) ?_
  refine S_go (fun _ _ h => h) ?_
  refine T_ret (fun a w hF hM => hRb a w (post1 rfl rfl (fun w hM => ?_) a w hF hM))
  exact ⟨rfl, hM.below⟩
theorem eqL_refl {α : Type} {f : α → α → Bool} (h : ∀ a, f a a = true) : ∀ l : List α, eqLB f l l = true
  | [] => rfl
  | a :: r => by rw [eqLB, eqL_refl h r, h]; rfl
/-- the value of a tag -/
def tagV (n : List UInt8) : List STag → List UInt8 × Bool
  | [] => ([], false)
  | t :: r => if t.n = n then (t.v, true) else tagV n r
end Go.Proofs.YtfmbgaaonfgenaaGreatDoor
end
section
namespace Go.Proofs.YtfmbgaaonfgenaaGreatDoor
set_option linter.unusedSimpArgs false
set_option linter.unusedVariables false
set_option maxRecDepth 20000
open Go.RowKit Go.Eng
/-- how many bytes at the beginning are such -/
def hdN (is : UInt8 → Bool) : List UInt8 → Nat
  | [] => 0
  | c :: r => if is c = true then hdN is r + 1 else 0
theorem hdN_le (is : UInt8 → Bool) : ∀ l : List UInt8, hdN is l ≤ l.length
  | [] => Nat.le_refl _
  | c :: r => by
    rw [hdN]; split
    · exact Nat.succ_le_succ (hdN_le is r)
    · exact Nat.zero_le _
theorem hdN_at (is : UInt8 → Bool) : ∀ (l : List UInt8) (j : Nat), j < hdN is l → is (l.getD j 0) = true
  | [], j, h => absurd h (Nat.not_lt_zero j)
  | c :: r, j, h => by
    rw [hdN] at h
    split at h
    · cases j with
      | zero => assumption
      | succ j => exact hdN_at is r j (by omega)
    · exact absurd h (Nat.not_lt_zero j)
theorem hdN_end (is : UInt8 → Bool) : ∀ l : List UInt8, hdN is l < l.length → is (l.getD (hdN is l) 0) = false
  | [], h => absurd h (Nat.lt_irrefl 0)
  | c :: r, h => by
    rw [hdN] at h ⊢
    split
    · rename_i hc
      rw [if_pos hc] at h
      exact hdN_end is r (by simpa using h)
    · rename_i hc
      simpa using hc
/-- the rows of such bytes, from a place on; n: what is left -/
def rowsF (is : UInt8 → Bool) (s : List UInt8) : Nat → Nat → List (Nat × Nat)
  | 0, _ => []
  | n + 1, i => if is (s.getD i 0) = true then (i, i + hdN is (s.drop i)) :: rowsF is s (n - hdN is (s.drop i)) (i + hdN is (s.drop i) + 1) else rowsF is s n (i + 1)
/-- parts in order, apart, within n -/
inductive SpOk (n : Nat) : Nat → List (Nat × Nat) → Prop where
  | nil {a : Nat} (h : a ≤ n) : SpOk n a []
  | cons {a f t : Nat} {r : List (Nat × Nat)} (h1 : a ≤ f) (h2 : f ≤ t) (h3 : t ≤ n) (h : SpOk n t r) : SpOk n a ((f, t) :: r)
theorem SpOk.le {n a : Nat} {l : List (Nat × Nat)} (h : SpOk n a l) : a ≤ n := by
  cases h with
  | nil h => exact h
  | cons h1 h2 h3 _ => omega
theorem SpOk.mono {n a b : Nat} {l : List (Nat × Nat)} (h : SpOk n a l) (hb : b ≤ a) : SpOk n b l := by
  cases h with
  | nil h => exact .nil (by omega)
  | cons h1 h2 h3 h => exact .cons (by omega) h2 h3 h
theorem SpOk.filter {n : Nat} (p : Nat × Nat → Bool) : ∀ {a : Nat} {l : List (Nat × Nat)}, SpOk n a l → SpOk n a (l.filter p)
  | a, [], h => h
  | a, (f, t) :: r, h => by
    cases h with
    | cons h1 h2 h3 h =>
      rw [List.filter_cons]
      split
      · exact .cons h1 h2 h3 (SpOk.filter p h)
      · exact SpOk.mono (a := t) (SpOk.filter p h) (by omega)
theorem rowsF_ok (is : UInt8 → Bool) (s : List UInt8) : ∀ (n i : Nat), i + n = s.length → SpOk s.length i (rowsF is s n i)
  | 0, i, h => by rw [rowsF]; exact .nil (by omega)
  | n + 1, i, h => by
    rw [rowsF]
    split
    · have hl := hdN_le is (s.drop i)
      rw [List.length_drop] at hl
      have h0 : 0 < hdN is (s.drop i) := by
        have hd : s.drop i = s.getD i 0 :: s.drop (i + 1) := by
          rw [List.drop_eq_getElem_cons (by omega), List.getD_eq_getElem?_getD, List.getElem?_eq_getElem (by omega)]; rfl
        rw [hd, hdN, if_pos (by assumption)]; omega
      by_cases hn : hdN is (s.drop i) ≤ n
      · exact .cons (Nat.le_refl _) (by omega) (by omega) (SpOk.mono (a := i + hdN is (s.drop i) + 1) (rowsF_ok is s (n - hdN is (s.drop i)) (i + hdN is (s.drop i) + 1) (by omega)) (by omega))
      · rw [show n - hdN is (s.drop i) = 0 by omega, rowsF]
        exact .cons (Nat.le_refl _) (by omega) (by omega) (.nil (by omega))
    · exact SpOk.mono (a := i + 1) (rowsF_ok is s n (i + 1) (by omega)) (by omega)
/-- what is put together: what lies between the parts stays -/
def putM (s : List UInt8) : Nat → List (Nat × Nat) → List UInt8
  | a, [] => s.drop a
  | a, (f, t) :: r => (s.drop a).take (f - a) ++ List.replicate (t - f) 42 ++ putM s t r
theorem putM_len (s : List UInt8) : ∀ {a : Nat} {l : List (Nat × Nat)}, SpOk s.length a l → (putM s a l).length = s.length - a
  | a, [], _ => by rw [putM, List.length_drop]
  | a, (f, t) :: r, h => by
    cases h with
    | cons h1 h2 h3 h =>
      rw [putM, List.length_append, List.length_append, List.length_take, List.length_drop, List.length_replicate, putM_len s h]
      have := h.le
      omega
/-- a byte is in a part -/
abbrev inSp (l : List (Nat × Nat)) (i : Nat) : Prop := ∃ x ∈ l, x.1 ≤ i ∧ i < x.2
theorem putM_at (s : List UInt8) : ∀ {a : Nat} {l : List (Nat × Nat)}, SpOk s.length a l → ∀ i, a ≤ i → i < s.length → (inSp l i → (putM s a l).getD (i - a) 0 = 42) ∧ (¬ inSp l i → (putM s a l).getD (i - a) 0 = s.getD i 0)
  | a, [], _, i, h1, h2 => by
    refine ⟨fun ⟨x, hx, _⟩ => (by cases hx), fun _ => ?_⟩
    rw [putM, List.getD_eq_getElem?_getD, List.getElem?_drop, List.getD_eq_getElem?_getD]
    rw [show a + (i - a) = i by omega]
  | a, (f, t) :: r, h, i, h1, h2 => by
    cases h with
    | cons g1 g2 g3 g =>
      have hr := putM_at s g i
      have hlen : ((s.drop a).take (f - a)).length = f - a := by rw [List.length_take, List.length_drop]; omega
      rw [putM, List.append_assoc, List.getD_eq_getElem?_getD]
      by_cases c1 : i < f
      · rw [List.getElem?_append_left (by omega), List.getElem?_take, if_pos (by omega), List.getElem?_drop, show a + (i - a) = i by omega]
        refine ⟨fun ⟨x, hx, hx1, hx2⟩ => ?_, fun _ => by rw [List.getD_eq_getElem?_getD]⟩
        exfalso
        rcases List.mem_cons.1 hx with rfl | hx
        · omega
        · exact absurd hx1 (by have := SpOk.from_le g x hx; omega)
      · rw [List.getElem?_append_right (by omega), hlen]
        by_cases c2 : i < t
        · rw [List.getElem?_append_left (by rw [List.length_replicate]; omega), List.getElem?_replicate, if_pos (by omega)]
          exact ⟨fun _ => rfl, fun hn => absurd ⟨(f, t), List.mem_cons_self, by show f ≤ i; omega, c2⟩ hn⟩
        · rw [List.getElem?_append_right (by rw [List.length_replicate]; omega), List.length_replicate, ← List.getD_eq_getElem?_getD, show i - a - (f - a) - (t - f) = i - t by omega]
          have hr := hr (by omega) h2
          refine ⟨fun ⟨x, hx, hx1, hx2⟩ => ?_, fun hn => hr.2 fun ⟨x, hx, hx1⟩ => hn ⟨x, List.mem_cons_of_mem _ hx, hx1⟩⟩
          rcases List.mem_cons.1 hx with rfl | hx
          · exact absurd hx2 c2
          · exact hr.1 ⟨x, hx, hx1, hx2⟩
where
  SpOk.from_le {n : Nat} : ∀ {a : Nat} {l : List (Nat × Nat)}, SpOk n a l → ∀ x ∈ l, a ≤ x.1
  | _, [], _, _, hx => by cases hx
  | a, (f, t) :: r, h, x, hx => by
    cases h with
    | cons h1 h2 h3 h =>
      rcases List.mem_cons.1 hx with rfl | hx
      · exact h1
      · have := SpOk.from_le h x hx; omega
end Go.Proofs.YtfmbgaaonfgenaaGreatDoor
end
section
namespace Go.Proofs.YtfmbgaaonfgenaaGreatDoor
set_option linter.unusedSimpArgs false
set_option linter.unusedVariables false
set_option maxRecDepth 20000
open Go.RowKit Go.Eng
/-- k bytes of a kind in a row -/
def Run (is : UInt8 → Bool) (k : Nat) (s : List UInt8) : Prop := ∃ i, i + k ≤ s.length ∧ ∀ j, j < k → is (s.getD (i + j) 0) = true
theorem getD_drop (s : List UInt8) (i j : Nat) : (s.drop i).getD j 0 = s.getD (i + j) 0 := by
  rw [List.getD_eq_getElem?_getD, List.getElem?_drop, List.getD_eq_getElem?_getD]
theorem rowsF_has {is : UInt8 → Bool} {s : List UInt8} {p k : Nat} (hk : 1 ≤ k) (hp : p + k ≤ s.length) (h : ∀ j, j < k → is (s.getD (p + j) 0) = true) : ∀ (n i : Nat), i + n = s.length → i ≤ p → ∃ x ∈ rowsF is s n i, x.1 ≤ p ∧ p + k ≤ x.2
  | 0, i, hn, hi => by omega
  | n + 1, i, hn, hi => by
    rw [rowsF]
    have hl := hdN_le is (s.drop i)
    rw [List.length_drop] at hl
    split
    · rename_i hc
      by_cases h1 : p < i + hdN is (s.drop i)
      · refine ⟨_, List.mem_cons_self, hi, ?_⟩
        show p + k ≤ i + hdN is (s.drop i)
        refine Classical.byContradiction fun hno => ?_
        have h2 : hdN is (s.drop i) < (s.drop i).length := by rw [List.length_drop]; omega
        have h3 := hdN_end is (s.drop i) h2
        rw [getD_drop] at h3
        have h4 := h (i + hdN is (s.drop i) - p) (by omega)
        rw [show p + (i + hdN is (s.drop i) - p) = i + hdN is (s.drop i) by omega, h3] at h4
        cases h4
      · have h2 : p ≠ i + hdN is (s.drop i) := fun e => by
          have h2 : hdN is (s.drop i) < (s.drop i).length := by rw [List.length_drop]; omega
          have h3 := hdN_end is (s.drop i) h2
          rw [getD_drop, ← e] at h3
          have h4 := h 0 (by omega)
          rw [Nat.add_zero, h3] at h4
          cases h4
        obtain ⟨x, hx, hx1⟩ := rowsF_has hk hp h (n - hdN is (s.drop i)) (i + hdN is (s.drop i) + 1) (by omega) (by omega)
        exact ⟨x, List.mem_cons_of_mem _ hx, hx1⟩
    · rename_i hc
      have h2 : p ≠ i := fun e => by
        have h4 := h 0 (by omega)
        rw [Nat.add_zero, e] at h4
        exact hc h4
      exact rowsF_has hk hp h n (i + 1) (by omega) (by omega)
theorem rowsF_is {is : UInt8 → Bool} {s : List UInt8} : ∀ (n i : Nat), i + n = s.length → ∀ x ∈ rowsF is s n i, i ≤ x.1 ∧ x.1 < x.2 ∧ x.2 ≤ s.length ∧ ∀ p, x.1 ≤ p → p < x.2 → is (s.getD p 0) = true
  | 0, i, hn, x, hx => by rw [rowsF] at hx; cases hx
  | n + 1, i, hn, x, hx => by
    rw [rowsF] at hx
    have hl := hdN_le is (s.drop i)
    rw [List.length_drop] at hl
    split at hx
    · rename_i hc
      have h0 : 0 < hdN is (s.drop i) := by
        have hd : s.drop i = s.getD i 0 :: s.drop (i + 1) := by
          rw [List.drop_eq_getElem_cons (by omega), List.getD_eq_getElem?_getD, List.getElem?_eq_getElem (by omega)]; rfl
        rw [hd, hdN, if_pos hc]; omega
      rcases List.mem_cons.1 hx with rfl | hx
      · refine ⟨Nat.le_refl _, by show i < i + _; omega, by show i + _ ≤ _; omega, fun p h1 h2 => ?_⟩
        have h1 : i ≤ p := h1
        have h2 : p < i + hdN is (s.drop i) := h2
        have := hdN_at is (s.drop i) (p - i) (by omega)
        rwa [getD_drop, show i + (p - i) = p by omega] at this
      · by_cases hn' : hdN is (s.drop i) ≤ n
        · have := rowsF_is (n - hdN is (s.drop i)) (i + hdN is (s.drop i) + 1) (by omega) x hx
          exact ⟨by omega, this.2⟩
        · rw [show n - hdN is (s.drop i) = 0 by omega, rowsF] at hx
          cases hx
    · have := rowsF_is n (i + 1) (by omega) x hx
      exact ⟨by omega, this.2⟩
abbrev lngF (k : Int) (l : List (Nat × Nat)) : List (Nat × Nat) := l.filter fun x => decide (k ≤ (x.2 : Int) - (x.1 : Int))
/-- the rows that are long enough -/
def rowsK (is : UInt8 → Bool) (k : Int) (s : List UInt8) : List (Nat × Nat) := lngF k (rowsF is s s.length 0)
theorem rowsK_ok (is : UInt8 → Bool) (k : Int) (s : List UInt8) : SpOk s.length 0 (rowsK is k s) := (rowsF_ok is s s.length 0 (by omega)).filter _
theorem rowsK_none {is : UInt8 → Bool} {k : Nat} {s : List UInt8} (h : ¬ Run is k s) : rowsK is (k : Int) s = [] := by
  refine List.filter_eq_nil_iff.2 fun x hx => ?_
  rw [decide_eq_true_eq]
  intro hk
  obtain ⟨_, h2, h3, h4⟩ := rowsF_is s.length 0 (by omega) x hx
  exact h ⟨x.1, by omega, fun j hj => h4 (x.1 + j) (by omega) (by omega)⟩
/-- t is s, with some bytes masked -/
def Msk (s t : List UInt8) : Prop := t.length = s.length ∧ ∀ i, i < s.length → t.getD i 0 = 42 ∨ t.getD i 0 = s.getD i 0
theorem Msk.refl (s : List UInt8) : Msk s s := ⟨rfl, fun _ _ => .inr rfl⟩
theorem Msk.trans {s t u : List UInt8} (h : Msk s t) (h2 : Msk t u) : Msk s u := ⟨h2.1.trans h.1, fun i hi => by
  rcases h2.2 i (by rw [h.1]; exact hi) with h3 | h3
  · exact .inl h3
  · rw [h3]; exact h.2 i hi⟩
theorem putM_msk {s : List UInt8} {l : List (Nat × Nat)} (h : SpOk s.length 0 l) : Msk s (putM s 0 l) := ⟨by rw [putM_len s h]; omega, fun i hi => by
  have := putM_at s h i (Nat.zero_le _) hi
  rw [Nat.sub_zero] at this
  by_cases hx : inSp l i
  · exact .inl (this.1 hx)
  · exact .inr (this.2 hx)⟩
theorem Run.msk {is : UInt8 → Bool} {k : Nat} {s t : List UInt8} (h42 : is 42 = false) (hm : Msk s t) (h : Run is k t) : Run is k s := by
  obtain ⟨i, h1, h2⟩ := h
  refine ⟨i, by rw [← hm.1]; exact h1, fun j hj => ?_⟩
  have h3 := h2 j hj
  rcases hm.2 (i + j) (by rw [← hm.1]; omega) with h4 | h4
  · rw [h4, h42] at h3; cases h3
  · rw [← h4]; exact h3
/-- behind the mask no row is long enough -/
theorem rowsK_gone {is : UInt8 → Bool} {k : Nat} {s : List UInt8} (h42 : is 42 = false) (hk : 1 ≤ k) : ¬ Run is k (putM s 0 (rowsK is (k : Int) s)) := by
  intro h
  have hok := rowsK_ok is (k : Int) s
  have hm := putM_msk hok
  obtain ⟨i, h1, h2⟩ := h
  rw [hm.1] at h1
  have hs : ∀ j, j < k → is (s.getD (i + j) 0) = true := fun j hj => by
    have h3 := h2 j hj
    rcases hm.2 (i + j) (by omega) with h4 | h4
    · rw [h4, h42] at h3; cases h3
    · rw [← h4]; exact h3
  obtain ⟨x, hx, hx1, hx2⟩ := rowsF_has hk h1 hs s.length 0 (by omega) (Nat.zero_le _)
  have hin : inSp (rowsK is (k : Int) s) i := ⟨x, List.mem_filter.2 ⟨hx, decide_eq_true (by omega)⟩, hx1, by omega⟩
  have h5 := (putM_at s hok i (Nat.zero_le _) (by omega)).1 hin
  have h6 := h2 0 (by omega)
  rw [Nat.add_zero] at h6
  rw [Nat.sub_zero] at h5
  rw [h5, h42] at h6
  cases h6
end Go.Proofs.YtfmbgaaonfgenaaGreatDoor
end
section
namespace Go.Proofs.YtfmbgaaonfgenaaGreatDoor
set_option linter.unusedSimpArgs false
set_option linter.unusedVariables false
set_option maxRecDepth 20000
open Go.RowKit Go.Eng
/-- two rows with an @ between -/
def mailG (s : List UInt8) : List (Nat × Nat) → List (Nat × Nat)
  | a :: b :: r => if b.1 = a.2 + 1 ∧ s.getD a.2 0 = 64 then (a.1, b.2) :: mailG s r else mailG s (b :: r)
  | _ => []
def mailsF (is : UInt8 → Bool) (s : List UInt8) : List (Nat × Nat) := mailG s (rowsF is s s.length 0)
/-- rows in order: apart by at least one -/
inductive Apr : Nat → List (Nat × Nat) → Prop where
  | nil {a : Nat} : Apr a []
  | cons {a f t : Nat} {r : List (Nat × Nat)} (h1 : a ≤ f) (h2 : f < t) (h : Apr (t + 1) r) : Apr a ((f, t) :: r)
theorem Apr.mono {a b : Nat} {l : List (Nat × Nat)} (h : Apr a l) (hb : b ≤ a) : Apr b l := by
  cases h with
  | nil => exact .nil
  | cons h1 h2 h => exact .cons (by omega) h2 h
theorem Apr.mem {a : Nat} : ∀ {l : List (Nat × Nat)}, Apr a l → ∀ x ∈ l, a ≤ x.1 ∧ x.1 < x.2
  | [], _, _, hx => by cases hx
  | (f, t) :: r, h, x, hx => by
    cases h with
    | cons h1 h2 h =>
      rcases List.mem_cons.1 hx with rfl | hx
      · exact ⟨h1, h2⟩
      · have := Apr.mem h x hx; exact ⟨by omega, this.2⟩
theorem rowsF_apr (is : UInt8 → Bool) (s : List UInt8) : ∀ (n i : Nat), i + n = s.length → Apr i (rowsF is s n i)
  | 0, i, h => by rw [rowsF]; exact .nil
  | n + 1, i, h => by
    rw [rowsF]
    split
    · rename_i hc
      have hl := hdN_le is (s.drop i)
      rw [List.length_drop] at hl
      have h0 : 0 < hdN is (s.drop i) := by
        have hd : s.drop i = s.getD i 0 :: s.drop (i + 1) := by
          rw [List.drop_eq_getElem_cons (by omega), List.getD_eq_getElem?_getD, List.getElem?_eq_getElem (by omega)]; rfl
        rw [hd, hdN, if_pos hc]; omega
      by_cases hn : hdN is (s.drop i) ≤ n
      · exact .cons (Nat.le_refl _) (by omega) (rowsF_apr is s (n - hdN is (s.drop i)) (i + hdN is (s.drop i) + 1) (by omega))
      · rw [show n - hdN is (s.drop i) = 0 by omega, rowsF]
        exact .cons (Nat.le_refl _) (by omega) .nil
    · exact Apr.mono (a := i + 1) (rowsF_apr is s n (i + 1) (by omega)) (by omega)
theorem mailG_ok {s : List UInt8} : ∀ {l : List (Nat × Nat)} {a : Nat}, a ≤ s.length → Apr a l → (∀ x ∈ l, x.2 ≤ s.length) → SpOk s.length a (mailG s l)
  | [], a, ha, _, _ => by rw [mailG]; exact .nil ha; simp
  | [x], a, ha, _, _ => by rw [mailG]; exact .nil ha; simp
  | x :: y :: r, a, ha, h, hl => by
    rw [mailG]
    cases h with
    | cons h1 h2 h =>
      cases h with
      | cons g1 g2 g =>
        have hx := hl _ List.mem_cons_self
        have hy := hl _ (List.mem_cons_of_mem _ List.mem_cons_self)
        split
        · exact .cons h1 (by show _ ≤ _; omega) hy (mailG_ok (a := _) hy (g.mono (by show _ ≤ _; omega)) fun z hz => hl z (List.mem_cons_of_mem _ (List.mem_cons_of_mem _ hz)))
        · exact (mailG_ok (a := a) ha (.cons (by omega) g2 g) fun z hz => hl z (List.mem_cons_of_mem _ hz))
theorem mailsF_ok (is : UInt8 → Bool) (s : List UInt8) : SpOk s.length 0 (mailsF is s) :=
  mailG_ok (Nat.zero_le _) (rowsF_apr is s s.length 0 (by omega)) fun x hx => (rowsF_is s.length 0 (by omega) x hx).2.2.1
/-- an @ between two such bytes -/
def MailAt (is : UInt8 → Bool) (s : List UInt8) : Prop := ∃ p, 1 ≤ p ∧ p + 1 < s.length ∧ is (s.getD (p - 1) 0) = true ∧ s.getD p 0 = 64 ∧ is (s.getD (p + 1) 0) = true
theorem MailAt.msk {is : UInt8 → Bool} {s t : List UInt8} (h42 : is 42 = false) (hm : Msk s t) (h : MailAt is t) : MailAt is s := by
  obtain ⟨p, h1, h2, h3, h4, h5⟩ := h
  rw [hm.1] at h2
  have k : ∀ i, i < s.length → is (t.getD i 0) = true → is (s.getD i 0) = true := fun i hi h => by
    rcases hm.2 i hi with h6 | h6
    · rw [h6, h42] at h; cases h
    · rw [← h6]; exact h
  refine ⟨p, h1, h2, k _ (by omega) h3, ?_, k _ (by omega) h5⟩
  rcases hm.2 p (by omega) with h6 | h6
  · rw [h6] at h4; cases h4
  · rw [← h6]; exact h4
theorem mailG_none {is : UInt8 → Bool} {s : List UInt8} (hno : ¬ MailAt is s) : ∀ {l : List (Nat × Nat)} {a : Nat}, Apr a l → (∀ x ∈ l, x.2 ≤ s.length ∧ ∀ p, x.1 ≤ p → p < x.2 → is (s.getD p 0) = true) → mailG s l = []
  | [], _, _, _ => by rw [mailG]; simp
  | [x], _, _, _ => by rw [mailG]; simp
  | x :: y :: r, a, h, hl => by
    rw [mailG]
    cases h with
    | cons h1 h2 h =>
      have hx := hl _ List.mem_cons_self
      have hy := hl y (List.mem_cons_of_mem _ List.mem_cons_self)
      rename_i f t
      have hy0 := Apr.mem h y List.mem_cons_self
      rw [if_neg fun hc => hno ⟨t, by omega, by have := hc.1; have h3 : y.1 = t + 1 := this; omega, hx.2 (t - 1) (by show f ≤ t - 1; omega) (by show t - 1 < t; omega), hc.2, by
        have h3 : y.1 = t + 1 := hc.1
        exact hy.2 (t + 1) (by omega) (by omega)⟩]
      exact mailG_none hno h fun z hz => hl z (List.mem_cons_of_mem _ hz)
theorem mailsF_none {is : UInt8 → Bool} {s : List UInt8} (h : ¬ MailAt is s) : mailsF is s = [] :=
  mailG_none h (rowsF_apr is s s.length 0 (by omega)) fun x hx => (rowsF_is s.length 0 (by omega) x hx).2.2
/-- a row that ends at an @, and one that begins behind it: the one, the other or both are in what is found -/
theorem mailG_hit {s : List UInt8} {p : Nat} (hp : s.getD p 0 = 64) : ∀ {l : List (Nat × Nat)} {a : Nat}, Apr a l → ∀ x ∈ l, ∀ y ∈ l, x.2 = p → y.1 = p + 1 → inSp (mailG s l) p ∨ inSp (mailG s l) (p - 1)
  | [], _, _, x, hx, _, _, _, _ => by cases hx
  | [z], _, h, x, hx, y, hy, h1, h2 => by
    have := Apr.mem h x hx
    rw [List.mem_singleton] at hx hy
    subst hx
    subst hy
    omega
  | z :: u :: r, a, h, x, hx, y, hy, h1, h2 => by
    rw [mailG]
    have hu0 := Apr.mem h u (List.mem_cons_of_mem _ List.mem_cons_self)
    cases h with
    | cons g1 g2 g =>
      rename_i f t
      have hxl := hx
      rcases List.mem_cons.1 hx with rfl | hx
      · have h1 : t = p := h1
        have hyu : y = u := by
          rcases List.mem_cons.1 hy with rfl | hy
          · have h2 : f = p + 1 := h2; omega
          rcases List.mem_cons.1 hy with rfl | hyr
          · rfl
          · cases g with
            | cons k1 k2 k =>
              have := Apr.mem k y hyr
              rename_i f' t'
              have : f' < y.1 := by omega
              omega
        subst hyu
        rw [if_pos ⟨by show y.1 = t + 1; omega, by show s.getD t 0 = 64; rw [h1]; exact hp⟩]
        exact .inl ⟨_, List.mem_cons_self, by show f ≤ p; omega, by show p < y.2; have := hu0.2; omega⟩
      · have hy' : y ∈ u :: r := by
          rcases List.mem_cons.1 hy with rfl | hy
          · have h2 : f = p + 1 := h2
            have := Apr.mem g x hx
            omega
          · exact hy
        split
        · rename_i hc
          rcases List.mem_cons.1 hx with rfl | hxr
          · have hx2 : x.2 = p := h1
            exact .inr ⟨_, List.mem_cons_self, by show f ≤ p - 1; have h3 : x.1 = t + 1 := hc.1; have := hu0.2; omega, by show p - 1 < x.2; have := hu0.2; omega⟩
          · cases g with
            | cons k1 k2 k =>
              have hyr : y ∈ r := by
                rcases List.mem_cons.1 hy' with rfl | hy'
                · have := Apr.mem k x hxr
                  rename_i f' t' _
                  have h2 : f' = p + 1 := h2
                  omega
                · exact hy'
              rcases mailG_hit hp k x hxr y hyr h1 h2 with ⟨v, hv, hv2⟩ | ⟨v, hv, hv2⟩
              · exact .inl ⟨v, List.mem_cons_of_mem _ hv, hv2⟩
              · exact .inr ⟨v, List.mem_cons_of_mem _ hv, hv2⟩
        · exact mailG_hit hp g x hx y hy' h1 h2
/-- behind the mask there is no address -/
theorem mailsF_gone {is : UInt8 → Bool} {s : List UInt8} (h42 : is 42 = false) (h64 : is 64 = false) : ¬ MailAt is (putM s 0 (mailsF is s)) := by
  intro h
  have hok := mailsF_ok is s
  have hm := putM_msk hok
  obtain ⟨p, h1, h2, h3, h4, h5⟩ := MailAt.msk h42 hm h
  obtain ⟨p', g1, g2, g3, g4, g5⟩ := h
  rw [hm.1] at g2
  have nin : ∀ i, i < s.length → (putM s 0 (mailsF is s)).getD i 0 ≠ 42 → ¬ inSp (mailsF is s) i ∧ (putM s 0 (mailsF is s)).getD i 0 = s.getD i 0 := fun i hi hne => by
    have := putM_at s hok i (Nat.zero_le _) hi
    rw [Nat.sub_zero] at this
    have hn : ¬ inSp (mailsF is s) i := fun hin => hne (this.1 hin)
    exact ⟨hn, this.2 hn⟩
  have ne42 : ∀ c : UInt8, is c = true → c ≠ 42 := fun c hc e => by rw [e, h42] at hc; cases hc
  obtain ⟨n1, e1⟩ := nin (p' - 1) (by omega) (ne42 _ g3)
  obtain ⟨n2, e2⟩ := nin p' (by omega) (by rw [g4]; decide)
  obtain ⟨n3, e3⟩ := nin (p' + 1) (by omega) (ne42 _ g5)
  rw [e1] at g3; rw [e2] at g4; rw [e3] at g5
  obtain ⟨x, hx, hx1, hx2⟩ := rowsF_has (s := s) (p := p' - 1) (k := 1) (by omega) (by omega) (fun j hj => by rw [show p' - 1 + j = p' - 1 by omega]; exact g3) s.length 0 (by omega) (Nat.zero_le _)
  obtain ⟨y, hy, hy1, hy2⟩ := rowsF_has (s := s) (p := p' + 1) (k := 1) (by omega) (by omega) (fun j hj => by rw [show p' + 1 + j = p' + 1 by omega]; exact g5) s.length 0 (by omega) (Nat.zero_le _)
  have ix := rowsF_is s.length 0 (by omega) x hx
  have iy := rowsF_is s.length 0 (by omega) y hy
  have hxp : x.2 = p' := by
    refine Classical.byContradiction fun hne => ?_
    have := ix.2.2.2 p' (by omega) (by omega)
    rw [g4, h64] at this; cases this
  have hyp : y.1 = p' + 1 := by
    refine Classical.byContradiction fun hne => ?_
    have := iy.2.2.2 p' (by omega) (by omega)
    rw [g4, h64] at this; cases this
  rcases mailG_hit g4 (rowsF_apr is s s.length 0 (by omega)) x hx y hy hxp hyp with h6 | h6
  · exact n2 h6
  · exact n1 h6
end Go.Proofs.YtfmbgaaonfgenaaGreatDoor
end
section
namespace Go.Proofs.YtfmbgaaonfgenaaGreatDoor
set_option linter.unusedSimpArgs false
set_option linter.unusedVariables false
set_option maxRecDepth 20000
open Go.RowKit Go.Eng
theorem CloneFlt_any (l : Sl Flt) (w : World) (hl : l.Ok Flt.enc 3 w) (hq : l.q ≤ 1000000) :
    Calls Tryz.prog 82 #[.slice l.A l.q l.c] w fun e w' => ∃ A c, e = .returned (.slice A l.q c) ∧ w'.ownsRow w.heap.size 50 3 (.slice A l.q c) l.q (l.l.flatMap Flt.enc) ∧ Below w.heap.size w w' := by
  have hlen := hl.t.len
  refine enter_args (args := [.slice l.A l.q l.c]) (F := _) Tryz.func82 rfl Tryz.ntmps82 rfl rfl ?_
  intro Rb hRb hRn
  refine T_seq ?_
  refine T_region ?_
  refine S_nilSlice 2 (e := 50) (size := 3) ?_
  refine S_ 2 rfl rfl rfl _ (y_assign rfl rfl) ?_
  refine S_go (fun _ _ h => h) ?_
  refine T_seq ?_
  refine T_seq ?_
  refine T_region ?_
  refine S_ 3 rfl rfl rfl _ (y_move rfl rfl) ?_
  refine S_ 4 rfl rfl rfl _ (y_bin rfl rfl rfl (fun _ => b_eqln Tryz.underlying25)) ?_
  refine S_go (fun _ _ h => h) ?_
  refine T_cond rfl (fun h4 => ?_) (fun h4 => ?_)
  · skip
    refine T_seq ?_
    refine T_region ?_
    refine S_nilSlice 2 (e := 50) (size := 3) ?_
    refine S_ 2 rfl rfl rfl _ (y_assign rfl rfl) ?_
    refine S_go (fun _ _ h => h) ?_
    refine T_ret (fun a w hF hM => hRb a w (post1 rfl rfl (fun w hM => ?_) a w hF hM))
    have hA : l.A = none := by cases h : l.A with
      | none => rfl
      | some a => rw [h] at h4; cases h4
    have h0 : l.q = 0 := by
      rcases Nat.eq_zero_or_pos l.q with h | h
      · exact h
      · have := hl.t.isSome h; rw [hA] at this; cases this
    have hn : l.l = [] := List.eq_nil_of_length_eq_zero (by omega)
    rw [h0, hn]
    exact ⟨none, 0, rfl, World.ownsRow_nil _ _ _ _, hM.below⟩
  · skip
    refine T_skip_go (fun _ _ h => h) ?_
    refine T_seq ?_
    refine T_region ?_
    refine S_buildSlice0 5 5 rfl rfl rfl rfl Tryz.underlying25 sz50 ?_
    intro b5
    refine S_ 6 rfl rfl rfl _ (y_move rfl rfl) ?_
    obtain ⟨i7, hi7, hz7, hs7, hy7⟩ := info_parts inf50
    refine S_appendG 7 5 (news := l.l.flatMap Flt.enc) rfl rfl rfl rfl rfl rfl rfl (fun w hM => hl.t.rd.below hM.below) Tryz.underlying25 hi7 hz7 hs7 hy7 rfl (by decide) (allOne_of (fun u hu => by obtain ⟨a, _, ha⟩ := List.mem_flatMap.1 hu; simp [Flt.enc] at ha; rcases ha with rfl | rfl | rfl <;> rfl)) ?_ ?_ (l.q) (l.l.flatMap Flt.enc) ?_ ?_ ?_
    · (simp only [maxLen]; omega)
    · omega
    · omega
    · rfl
    intro A7 c7
    refine S_ 2 rfl rfl rfl _ (y_assign rfl rfl) ?_
    refine S_go (fun _ _ h => h) ?_
    refine T_ret (fun a w hF hM => hRb a w (post1 rfl rfl (fun w hM => ?_) a w hF hM))
    exact ⟨A7, c7, rfl, hM.sat 5 _ rfl, hM.below⟩
theorem CloneTag_any (l : Sl STag) (w : World) (hl : l.Ok STag.enc 2 w) (hq : l.q ≤ 1000000) :
    Calls Tryz.prog 83 #[.slice l.A l.q l.c] w fun e w' => ∃ A c, e = .returned (.slice A l.q c) ∧ w'.ownsRow w.heap.size 104 2 (.slice A l.q c) l.q (l.l.flatMap STag.enc) ∧ Below w.heap.size w w' := by
  have hlen := hl.t.len
  refine enter_args (args := [.slice l.A l.q l.c]) (F := _) Tryz.func83 rfl Tryz.ntmps83 rfl rfl ?_
  intro Rb hRb hRn
  refine T_seq ?_
  refine T_region ?_
  refine S_nilSlice 2 (e := 104) (size := 2) ?_
  refine S_ 2 rfl rfl rfl _ (y_assign rfl rfl) ?_
  refine S_go (fun _ _ h => h) ?_
  refine T_seq ?_
  refine T_seq ?_
  refine T_region ?_
  refine S_ 3 rfl rfl rfl _ (y_move rfl rfl) ?_
  refine S_ 4 rfl rfl rfl _ (y_bin rfl rfl rfl (fun _ => b_eqln Tryz.underlying26)) ?_
  refine S_go (fun _ _ h => h) ?_
  refine T_cond rfl (fun h4 => ?_) (fun h4 => ?_)
  · skip
    refine T_seq ?_
    refine T_region ?_
    refine S_nilSlice 2 (e := 104) (size := 2) ?_
    refine S_ 2 rfl rfl rfl _ (y_assign rfl rfl) ?_
    refine S_go (fun _ _ h => h) ?_
    refine T_ret (fun a w hF hM => hRb a w (post1 rfl rfl (fun w hM => ?_) a w hF hM))
    have hA : l.A = none := by cases h : l.A with
      | none => rfl
      | some a => rw [h] at h4; cases h4
    have h0 : l.q = 0 := by
      rcases Nat.eq_zero_or_pos l.q with h | h
      · exact h
      · have := hl.t.isSome h; rw [hA] at this; cases this
    have hn : l.l = [] := List.eq_nil_of_length_eq_zero (by omega)
    rw [h0, hn]
    exact ⟨none, 0, rfl, World.ownsRow_nil _ _ _ _, hM.below⟩
  · skip
    refine T_skip_go (fun _ _ h => h) ?_
    refine T_seq ?_
    refine T_region ?_
    refine S_buildSlice0 5 5 rfl rfl rfl rfl Tryz.underlying26 sz104 ?_
    intro b5
    refine S_ 6 rfl rfl rfl _ (y_move rfl rfl) ?_
    obtain ⟨i7, hi7, hz7, hs7, hy7⟩ := info_parts inf104
    refine S_appendG 7 5 (news := l.l.flatMap STag.enc) rfl rfl rfl rfl rfl rfl rfl (fun w hM => hl.t.rd.below hM.below) Tryz.underlying26 hi7 hz7 hs7 hy7 rfl (by decide) (allOne_of (fun u hu => by obtain ⟨a, _, ha⟩ := List.mem_flatMap.1 hu; simp [STag.enc] at ha; rcases ha with rfl | rfl <;> rfl)) ?_ ?_ (l.q) (l.l.flatMap STag.enc) ?_ ?_ ?_
    · (simp only [maxLen]; omega)
    · omega
    · omega
    · rfl
    intro A7 c7
    refine S_ 2 rfl rfl rfl _ (y_assign rfl rfl) ?_
    refine S_go (fun _ _ h => h) ?_
    refine T_ret (fun a w hF hM => hRb a w (post1 rfl rfl (fun w hM => ?_) a w hF hM))
    exact ⟨A7, c7, rfl, hM.sat 5 _ rfl, hM.below⟩
theorem CloneCrumb_any (l : Sl SCrumb) (w : World) (hl : l.Ok SCrumb.enc 3 w) (hq : l.q ≤ 1000000) :
    Calls Tryz.prog 84 #[.slice l.A l.q l.c] w fun e w' => ∃ A c, e = .returned (.slice A l.q c) ∧ w'.ownsRow w.heap.size 107 3 (.slice A l.q c) l.q (l.l.flatMap SCrumb.enc) ∧ Below w.heap.size w w' := by
  have hlen := hl.t.len
  refine enter_args (args := [.slice l.A l.q l.c]) (F := _) Tryz.func84 rfl Tryz.ntmps84 rfl rfl ?_
  intro Rb hRb hRn
  refine T_seq ?_
  refine T_region ?_
  refine S_nilSlice 2 (e := 107) (size := 3) ?_
  refine S_ 2 rfl rfl rfl _ (y_assign rfl rfl) ?_
  refine S_go (fun _ _ h => h) ?_
  refine T_seq ?_
  refine T_seq ?_
  refine T_region ?_
  refine S_ 3 rfl rfl rfl _ (y_move rfl rfl) ?_
  refine S_ 4 rfl rfl rfl _ (y_bin rfl rfl rfl (fun _ => b_eqln Tryz.underlying27)) ?_
  refine S_go (fun _ _ h => h) ?_
  refine T_cond rfl (fun h4 => ?_) (fun h4 => ?_)
  · skip
    refine T_seq ?_
    refine T_region ?_
    refine S_nilSlice 2 (e := 107) (size := 3) ?_
    refine S_ 2 rfl rfl rfl _ (y_assign rfl rfl) ?_
    refine S_go (fun _ _ h => h) ?_
    refine T_ret (fun a w hF hM => hRb a w (post1 rfl rfl (fun w hM => ?_) a w hF hM))
    have hA : l.A = none := by cases h : l.A with
      | none => rfl
      | some a => rw [h] at h4; cases h4
    have h0 : l.q = 0 := by
      rcases Nat.eq_zero_or_pos l.q with h | h
      · exact h
      · have := hl.t.isSome h; rw [hA] at this; cases this
    have hn : l.l = [] := List.eq_nil_of_length_eq_zero (by omega)
    rw [h0, hn]
    exact ⟨none, 0, rfl, World.ownsRow_nil _ _ _ _, hM.below⟩
  · skip
    refine T_skip_go (fun _ _ h => h) ?_
    refine T_seq ?_
    refine T_region ?_
    refine S_buildSlice0 5 5 rfl rfl rfl rfl Tryz.underlying27 sz107 ?_
    intro b5
    refine S_ 6 rfl rfl rfl _ (y_move rfl rfl) ?_
    obtain ⟨i7, hi7, hz7, hs7, hy7⟩ := info_parts inf107
    refine S_appendG 7 5 (news := l.l.flatMap SCrumb.enc) rfl rfl rfl rfl rfl rfl rfl (fun w hM => hl.t.rd.below hM.below) Tryz.underlying27 hi7 hz7 hs7 hy7 rfl (by decide) (allOne_of (fun u hu => by obtain ⟨a, _, ha⟩ := List.mem_flatMap.1 hu; simp [SCrumb.enc] at ha; rcases ha with rfl | rfl | rfl <;> rfl)) ?_ ?_ (l.q) (l.l.flatMap SCrumb.enc) ?_ ?_ ?_
    · (simp only [maxLen]; omega)
    · omega
    · omega
    · rfl
    intro A7 c7
    refine S_ 2 rfl rfl rfl _ (y_assign rfl rfl) ?_
    refine S_go (fun _ _ h => h) ?_
    refine T_ret (fun a w hF hM => hRb a w (post1 rfl rfl (fun w hM => ?_) a w hF hM))
    exact ⟨A7, c7, rfl, hM.sat 5 _ rfl, hM.below⟩
end Go.Proofs.YtfmbgaaonfgenaaGreatDoor
end
section
namespace Go.Proofs.YtfmbgaaonfgenaaGreatDoor
set_option linter.unusedSimpArgs false
set_option linter.unusedVariables false
set_option maxRecDepth 20000
open Go.RowKit Go.Eng
theorem T_some {P : Program} {w0 : World} {n : Nat} {k : Code} {F : FL} {L : HL} {Q : Exit → Act → World → Prop} (i : Nat) {e : TypeId} {size q c : Nat} {A : Option Addr} {xs : List Value} (hL : L.get i = some (.own e size (.slice A q c) q xs)) (h : (0 < q → A.isSome = true) → T P w0 n k F L Q) : T P w0 n k F L Q :=
  fun a w hF hM => h (fun h0 => SlR.isSome (own_reads hM hL) h0) a w hF hM
abbrev Sp := Nat × Nat
abbrev spE (x : Sp) : List Value := [.int .i64 (x.1 : Int), .int .i64 (x.2 : Int)]
theorem take_atP {α : Type} {l : List α} {i : Nat} {x : α} (h : l[i]? = some x) : l.take (i + 1) = l.take i ++ [x] := by
  rw [List.take_add_one, h]; rfl
theorem at_ltP {α : Type} {l : List α} {i : Nat} (h : i < l.length) : ∃ x, l[i]? = some x ∧ l.drop i = x :: l.drop (i + 1) :=
  ⟨l[i], List.getElem?_eq_getElem h, List.drop_eq_getElem_cons h⟩
/-- the place of the first that answers p, or -1 -/
def IsIdxP (p : Sp → Bool) (l : List Sp) (n : Int) : Prop := (n = -1 ∧ ∀ x ∈ l, p x = false) ∨ ∃ k : Nat, n = k ∧ (∀ x ∈ l.take k, p x = false) ∧ ∃ x, l[k]? = some x ∧ p x = true
theorem IndexSp_any (A : Option Addr) (q c : Nat) (l : List Sp) (g : FuncId) (cap : Array Value) (p : Sp → Bool) (w : World) (hl : SlT spE 2 w A q l) (hq : q ≤ 4611686018427387904) (hcf : ∀ args w', (callFunc g args).run Tryz.prog w' = .ok (.enter g args) w')
    (hA : ∀ (x : Sp), x ∈ l → ∀ w', Below w.heap.size w w' → Calls Tryz.prog g (#[.agg (spE x).toArray] ++ cap) w' fun e w'' => e = .returned (.bool (p x)) ∧ Below w'.heap.size w' w'') :
    Calls Tryz.prog 255 #[.slice A q c, .func (.func g) #[] cap] w fun e w' => ∃ n : Int, e = .returned (.int .i64 n) ∧ IsIdxP p l n ∧ Below w.heap.size w w' := by
  have hlen := hl.len
  refine enter_args (args := [.slice A q c, .func (.func g) #[] cap]) (F := _) Tryz.func255 rfl Tryz.ntmps255 rfl rfl ?_
  intro Rb hRb hRn
  refine T_seq ?_
  refine T_region ?_
  refine S_ 4 rfl rfl rfl _ (y_assign rfl rfl) ?_
  refine S_go (fun _ _ h => h) ?_
  refine T_seq ?_
  refine T_seq ?_
  refine T_region ?_
  refine S_ 6 rfl rfl rfl _ (y_move rfl rfl) ?_
  refine S_ 7 rfl rfl rfl _ (y_len_slice rfl rfl Tryz.underlying196) ?_
  refine S_ 8 rfl rfl rfl _ (y_move rfl rfl) ?_
  refine S_go (fun _ _ h => h) ?_
  refine T_block ?_
  refine T_loopK1 (kf := [(4, 5), (8, 18)]) (kl := [(4, 5), (8, 18)]) (fun (i : Nat) => [(8, true, .int .i64 (i : Int))]) (fun (i : Nat) => []) (fun (i : Nat) => i ≤ q ∧ ∀ x ∈ l.take i, p x = false) (fun (i : Nat) => q - i) 0 (by repeat (first | exact kf_nil | (apply kf_in; focus rfl) | (apply kf_out; focus rfl))) (by repeat (first | exact kl_nil | exact kl_rest (by assumption) rfl | (apply kl_in; focus rfl) | (apply kl_out; focus rfl))) ?_ ?_ ?_ ?_
  · exact ⟨by omega, fun x hx => by simp at hx⟩
  · exact ⟨rfl, trivial⟩
  · exact trivial
  rintro i ⟨hp1, hp2⟩
  refine T_seq ?_
  refine T_region ?_
  refine S_ 9 rfl rfl rfl _ (y_bin rfl rfl rfl (fun _ => b_lss)) ?_
  refine S_go (fun _ _ h => h) ?_
  refine T_seq ?_
  refine T_cond rfl (fun h9 => ?_) (fun h9 => ?_)
  · try simp only [decide_eq_true_eq, decide_eq_false_iff_not, Bool.or_eq_true, Bool.or_eq_false_iff, Bool.and_eq_true, Bool.and_eq_false_iff, Bool.not_eq_true', Bool.not_eq_false', Bool.not_eq_true, Bool.not_eq_false, Bool.not_true, Bool.not_false, Int.not_lt, Int.not_le, not_or, not_and, Classical.not_not] at h9
    obtain ⟨x, hx1, hx2⟩ := hl.at (i := i) (by omega)
    refine T_skip_go (fun _ _ h => h) ?_
    refine T_seq ?_
    refine T_block ?_
    refine T_seq ?_
    refine T_region ?_
    refine S_ 10 rfl rfl rfl _ (y_move rfl rfl) ?_
    refine S_ 5 rfl rfl rfl _ (y_assign rfl rfl) ?_
    refine S_go (fun _ _ h => h) ?_
    refine T_seq ?_
    refine T_region ?_
    refine S_ 11 rfl rfl rfl _ (y_move rfl rfl) ?_
    refine S_ 12 rfl rfl rfl _ (y_move rfl rfl) ?_
    refine S_ 13 rfl rfl rfl _ (y_move rfl rfl) ?_
    refine S_ 14 rfl rfl rfl _ (y_indexAddr rfl rfl rfl Tryz.underlying196 sz199 (fun hg => hl.isSome (by omega)) (fun _ => by omega)) ?_
    refine S_ 15 rfl rfl rfl _ (y_loadT rfl rfl hl (fun _ => rfl) (fun _ => hx1) Tryz.underlying199 rfl sz199) ?_
    refine S_ 16 rfl rfl rfl _ (y_call rfl rfl rfl hcf (fun _ w2 hM => hA x (List.mem_of_getElem? hx1) w2 hM.below)) ?_
    refine S_go (fun _ _ h => h) ?_
    refine T_cond rfl (fun h16 => ?_) (fun h16 => ?_)
    · skip
      refine T_seq ?_
      refine T_region ?_
      refine S_ 17 rfl rfl rfl _ (y_move rfl rfl) ?_
      refine S_ 4 rfl rfl rfl _ (y_assign rfl rfl) ?_
      refine S_go (fun _ _ h => h) ?_
      refine T_ret (fun a w hF hM => hRb a w (post1 rfl rfl (fun w hM => ?_) a w hF hM))
      exact ⟨(i : Int), rfl, .inr ⟨i, rfl, hp2, x, hx1, h16⟩, hM.below⟩
    · skip
      refine T_skip_go (fun _ _ h => h) ?_
      refine T_region ?_
      refine S_ 18 rfl rfl rfl _ (y_bin rfl rfl rfl (fun hg => b_add (by omega))) ?_
      refine S_ 8 rfl rfl rfl _ (y_move rfl rfl) ?_
      refine S_nil (nextK1 (kf := [(4, 5), (8, 18)]) (kl := [(4, 5), (8, 18)]) (i + 1) (by repeat (first | exact kf_nil | (apply kf_in; focus rfl) | (apply kf_out; focus rfl))) (by repeat (first | exact kl_nil | exact kl_rest (by assumption) rfl | (apply kl_in; focus rfl) | (apply kl_out; focus rfl))) ?_ ?_ ?_ ?_)
      · omega
      · exact ⟨by omega, fun y hy => by
          rw [take_atP hx1] at hy
          rcases List.mem_append.1 hy with hy | hy
          · exact hp2 y hy
          · simp only [List.mem_singleton] at hy; subst hy; exact h16⟩
      · exact ⟨rfl, trivial⟩
      · exact trivial
  · try simp only [decide_eq_true_eq, decide_eq_false_iff_not, Bool.or_eq_true, Bool.or_eq_false_iff, Bool.and_eq_true, Bool.and_eq_false_iff, Bool.not_eq_true', Bool.not_eq_false', Bool.not_eq_true, Bool.not_eq_false, Bool.not_true, Bool.not_false, Int.not_lt, Int.not_le, not_or, not_and, Classical.not_not] at h9
    refine T_exit_go (fun _ _ h => h) ?_
    refine T_seq ?_
    refine T_region ?_
    refine S_ 4 rfl rfl rfl _ (y_assign rfl rfl) ?_
    refine S_go (fun _ _ h => h) ?_
    refine T_ret (fun a w hF hM => hRb a w (post1 rfl rfl (fun w hM => ?_) a w hF hM))
    exact ⟨-1, rfl, .inl ⟨rfl, by rw [List.take_of_length_le (by omega)] at hp2; exact hp2⟩, hM.below⟩
def notQ (p : Sp → Bool) (x : Sp) : Bool := !p x
theorem del_stepP {p : Sp → Bool} {l M : List Sp} {k j : Nat} {x : Sp} (h1 : M.take k = (l.take j).filter (notQ p)) (h2 : M.drop j = l.drop j) (hx : l[j]? = some x) (hk : k < j) (hp : p x = false) :
    (M.set k x).take (k + 1) = (l.take (j + 1)).filter (notQ p) ∧ (M.set k x).drop (j + 1) = l.drop (j + 1) := by
  have hl := (List.getElem?_eq_some_iff.1 hx).1
  have hM : M.length - j = l.length - j := by have := congrArg List.length h2; simpa only [List.length_drop] using this
  constructor
  · have hat : (M.set k x)[k]? = some x := by rw [List.getElem?_set_self (by omega)]
    rw [take_atP hat, List.take_set_of_le (Nat.le_refl k), h1, take_atP hx, List.filter_append, List.filter_cons, if_pos (by simp [notQ, hp]), List.filter_nil]
  · rw [List.drop_set_of_lt (by omega), ← List.drop_drop (i := 1) (j := j), ← List.drop_drop (i := 1) (j := j), h2]
theorem del_skipP {p : Sp → Bool} {l M : List Sp} {k j : Nat} {x : Sp} (h1 : M.take k = (l.take j).filter (notQ p)) (h2 : M.drop j = l.drop j) (hx : l[j]? = some x) (hp : p x = true) :
    M.take k = (l.take (j + 1)).filter (notQ p) ∧ M.drop (j + 1) = l.drop (j + 1) := by
  constructor
  · rw [h1, take_atP hx, List.filter_append, List.filter_cons, if_neg (by simp [notQ, hp]), List.filter_nil, List.append_nil]
  · rw [← List.drop_drop (i := 1) (j := j), ← List.drop_drop (i := 1) (j := j), h2]
theorem flat_takeP {α : Type} {enc : α → List Value} {size : Nat} (hs : ∀ x, (enc x).length = size) : ∀ (l : List α) (k : Nat), (l.flatMap enc).take (k * size) = (l.take k).flatMap enc
  | [], k => by simp
  | a :: r, 0 => by simp
  | a :: r, k + 1 => by
    rw [List.flatMap_cons, List.take_succ_cons, List.flatMap_cons, Nat.succ_mul, List.take_append, hs, Nat.add_sub_cancel, flat_takeP hs r k, List.take_of_length_le (by rw [hs]; omega)]
set_option maxHeartbeats 1000000 in
theorem DeleteSp_any {w0 : World} {K : HL} (hK : FromK K) (bx : It) (A : Option Addr) (q c : Nat) (l : List Sp) (g : FuncId) (cap : Array Value) (p : Sp → Bool) (hlen : l.length = q) (hq : q ≤ 1000000000) (hcf : ∀ args w', (callFunc g args).run Tryz.prog w' = .ok (.enter g args) w')
    (hA : ∀ (x : Sp), x ∈ l → ∀ w', Mem w0 ([(1, bx)] ++ K) w' → Calls Tryz.prog g (#[.agg (spE x).toArray] ++ cap) w' fun e w'' => e = .returned (.bool (p x)) ∧ Below w'.heap.size w' w'') (w : World)
    (hM0 : Mem w0 ([(0, .own 199 2 (.slice A q c) q (l.flatMap spE)), (1, bx)] ++ K) w) :
    Calls Tryz.prog 213 #[.slice A q c, .func (.func g) #[] cap] w fun e w' => ∃ z : Nat, e = .returned (.slice A z c) ∧ z = (l.filter (notQ p)).length ∧ Mem w0 ([(0, .own 199 2 (.slice A z c) z ((l.filter (notQ p)).flatMap spE)), (1, bx)] ++ K) w' := by
  refine enterM_args (args := [.slice A q c, .func (.func g) #[] cap]) (F := _) hM0 Tryz.func213 rfl Tryz.ntmps213 rfl rfl ?_
  intro Rb hRb hRn
  refine T_some 0 rfl fun hA0 => ?_
  refine T_cap 0 rfl fun hcap => ?_
  refine T_seq ?_
  refine T_region ?_
  refine S_nilSlice 4 (e := 199) (size := 2) ?_
  refine S_ 4 rfl rfl rfl _ (y_assign rfl rfl) ?_
  refine S_go (fun _ _ h => h) ?_
  refine T_seq ?_
  refine T_region ?_
  refine S_ 8 rfl rfl rfl _ (y_move rfl rfl) ?_
  refine S_ 9 rfl rfl rfl _ (y_move rfl rfl) ?_
  refine S_call 10 (X := Int) rfl rfl rfl rfl rfl rfl rfl cf255 (fun n => .int .i64 n) (fun n => IsIdxP p l n) (fun _ => _) (fun w1 hM => (IndexSp_any A q c l g cap p w1 (owned_T (enc := spE) hM hlen (i := 0) rfl) (by omega) hcf fun x hx w2 hb => hA x hx w2 ((hM.call hb).keep (ks := [(0, 999)]) (by repeat (first | exact kl_rest (by assumption) rfl | (apply kl_in; focus rfl))) _ ⟨rfl, trivial⟩)).mono fun e w2 ⟨n, h1, h2, h3⟩ => ⟨n, h1, h2, hM.call h3⟩) ?_
  rintro n hn
  refine S_ 5 rfl rfl rfl _ (y_assign rfl rfl) ?_
  refine S_go (fun _ _ h => h) ?_
  refine T_seq ?_
  refine T_seq ?_
  refine T_region ?_
  refine S_ 11 rfl rfl rfl _ (y_move rfl rfl) ?_
  refine S_ 12 rfl rfl rfl _ (y_bin rfl rfl rfl (fun _ => b_eql)) ?_
  refine S_go (fun _ _ h => h) ?_
  refine T_cond rfl (fun h12 => ?_) (fun h12 => ?_)
  · skip
    have h12 : n = -1 := by simpa using h12
    have hall : l.filter (notQ p) = l := by
      rcases hn with ⟨_, h⟩ | ⟨k, hk, _⟩
      · exact List.filter_eq_self.2 fun x hx => by simp [notQ, h x hx]
      · omega
    refine T_seq ?_
    refine T_region ?_
    refine S_ 13 rfl rfl rfl _ (y_move rfl rfl) ?_
    refine S_ 4 rfl rfl rfl _ (y_assign rfl rfl) ?_
    refine S_go (fun _ _ h => h) ?_
    refine T_ret (fun a w hF hM => hRb a w (post1 rfl rfl (fun w hM => ?_) a w hF hM))
    exact ⟨q, rfl, by rw [hall, hlen], hM.keep (ks := [(0, 999)]) (by repeat (first | exact kl_rest (by assumption) rfl | (apply kl_in; focus rfl))) _ ⟨by rw [hall]; rfl, rfl, trivial⟩⟩
  · skip
    have h12 : ¬ n = -1 := by simpa using h12
    obtain ⟨k0, hn0, hn1, x0, hx0, hpx⟩ : ∃ k : Nat, n = k ∧ (∀ x ∈ l.take k, p x = false) ∧ ∃ x, l[k]? = some x ∧ p x = true := by
      rcases hn with ⟨h, _⟩ | h
      · exact absurd h h12
      · exact h
    subst hn0
    have hk0 := (List.getElem?_eq_some_iff.1 hx0).1
    refine T_skip_go (fun _ _ h => h) ?_
    refine T_seq ?_
    refine T_seq ?_
    refine T_region ?_
    refine S_ 14 rfl rfl rfl _ (y_move rfl rfl) ?_
    refine S_ 15 rfl rfl rfl _ (y_bin rfl rfl rfl (fun hg => b_addv (((k0 + 1 : Nat) : Int)) (by omega) (by omega))) ?_
    refine S_ 6 rfl rfl rfl _ (y_assign rfl rfl) ?_
    refine S_go (fun _ _ h => h) ?_
    refine T_block ?_
    refine T_loopK3 (kf := [(5, 7), (16, 35)]) (kl := [(0, 0), (5, 7), (16, 35)]) (fun (j k : Nat) (M : List Sp) => [(6, true, .int .i64 (j : Int)), (5, true, .int .i64 (k : Int))]) (fun (j k : Nat) (M : List Sp) => [(0, .own 199 2 (.slice A q c) q (M.flatMap spE))]) (fun (j k : Nat) (M : List Sp) => M.length = q ∧ M.take k = (l.take j).filter (notQ p) ∧ M.drop j = l.drop j ∧ k < j ∧ j ≤ q) (fun (j k : Nat) (M : List Sp) => q - j) (k0 + 1) k0 l (by repeat (first | exact kf_nil | (apply kf_in; focus rfl) | (apply kf_out; focus rfl))) (by repeat (first | exact kl_nil | exact kl_rest (by assumption) rfl | (apply kl_in; focus rfl) | (apply kl_out; focus rfl))) ?_ ?_ ?_ ?_
    · exact ⟨hlen, by rw [take_atP hx0, List.filter_append, List.filter_cons, if_neg (by simp [notQ, hpx]), List.filter_nil, List.append_nil]; exact (List.filter_eq_self.2 fun x hx => by simp [notQ, hn1 x hx]).symm, rfl, by omega, by omega⟩
    · exact ⟨rfl, rfl, trivial⟩
    · exact ⟨rfl, trivial⟩
    rintro j k M ⟨hp1, hp2, hp3, hp4, hp5⟩
    refine T_seq ?_
    refine T_seq ?_
    refine T_region ?_
    refine S_ 16 rfl rfl rfl _ (y_move rfl rfl) ?_
    refine S_ 17 rfl rfl rfl _ (y_move rfl rfl) ?_
    refine S_ 18 rfl rfl rfl _ (y_len_slice rfl rfl Tryz.underlying196) ?_
    refine S_ 19 rfl rfl rfl _ (y_bin rfl rfl rfl (fun _ => b_lss)) ?_
    refine S_go (fun _ _ h => h) ?_
    refine T_cond rfl (fun h19 => ?_) (fun h19 => ?_)
    · try simp only [decide_eq_true_eq, decide_eq_false_iff_not, Bool.or_eq_true, Bool.or_eq_false_iff, Bool.and_eq_true, Bool.and_eq_false_iff, Bool.not_eq_true', Bool.not_eq_false', Bool.not_eq_true, Bool.not_eq_false, Bool.not_true, Bool.not_false, Int.not_lt, Int.not_le, not_or, not_and, Classical.not_not] at h19
      obtain ⟨x, hx1, hx2⟩ := at_ltP (l := l) (i := j) (by omega)
      have hMx : M[j]? = some x := by
        have h := congrArg (·[0]?) hp3
        simpa [List.getElem?_drop, hx1] using h
      refine T_skip_go (fun _ _ h => h) ?_
      refine T_seq ?_
      refine T_block ?_
      refine T_seq ?_
      refine T_region ?_
      refine S_ 22 rfl rfl rfl _ (y_move rfl rfl) ?_
      refine S_ 23 rfl rfl rfl _ (y_move rfl rfl) ?_
      refine S_ 24 rfl rfl rfl _ (y_indexAddr rfl rfl rfl Tryz.underlying196 sz199 (fun hg => hA0 (by omega)) (fun _ => by omega)) ?_
      refine S_ 25 rfl rfl rfl _ (y_loadO 0 rfl rfl rfl (by omega) (fun _ => rfl) (fun _ => hMx) Tryz.underlying199 rfl sz199) ?_
      refine S_alloc 7 7 rfl rfl rfl rfl z199 ?_
      intro b7
      refine S_store 7 rfl rfl rfl rfl rfl rfl sz199 rfl rfl ?_
      refine S_go (fun _ _ h => h) ?_
      refine T_seq ?_
      refine T_region ?_
      refine S_ 26 rfl rfl rfl _ (y_move rfl rfl) ?_
      refine S_ 27 rfl rfl rfl _ (y_loadA 7 rfl rfl rfl Tryz.underlying199 rfl sz199) ?_
      refine S_ 28 rfl rfl rfl _ (y_call rfl rfl rfl hcf (fun _ w hM => hA x (List.mem_of_getElem? hx1) w (hM.keep (ks := [(0, 999)]) (by repeat (first | exact kl_rest (by assumption) rfl | (apply kl_in; focus rfl))) _ ⟨rfl, trivial⟩))) ?_
      refine S_ 29 rfl rfl rfl _ (y_not rfl rfl) ?_
      refine S_go (fun _ _ h => h) ?_
      refine T_cond rfl (fun h29 => ?_) (fun h29 => ?_)
      · skip
        have h29 : p x = false := by simpa using h29
        obtain ⟨hd1, hd2⟩ := del_stepP hp2 hp3 hx1 hp4 h29
        refine T_seq ?_
        refine T_region ?_
        refine S_ 30 rfl rfl rfl _ (y_move rfl rfl) ?_
        refine S_ 31 rfl rfl rfl _ (y_move rfl rfl) ?_
        refine S_ 32 rfl rfl rfl _ (y_loadA 7 rfl rfl rfl Tryz.underlying199 rfl sz199) ?_
        refine S_ 33 rfl rfl rfl _ (y_indexAddr rfl rfl rfl Tryz.underlying196 sz199 (fun hg => hA0 (by omega)) (fun _ => by omega)) ?_
        refine S_storeEl 0 rfl rfl rfl rfl rfl rfl sz199 rfl rfl rfl ?_ (xs' := (M.set k x).flatMap spE) ?_ ?_
        · omega
        · exact flat_setE (enc := spE) (size := 2) (fun _ => rfl) (by omega)
        refine S_go (fun _ _ h => h) ?_
        refine T_region ?_
        refine S_ 34 rfl rfl rfl _ (y_move rfl rfl) ?_
        refine S_ 35 rfl rfl rfl _ (y_bin rfl rfl rfl (fun hg => b_addv (((k + 1 : Nat) : Int)) (by omega) (by omega))) ?_
        refine S_ 5 rfl rfl rfl _ (y_assign rfl rfl) ?_
        refine S_go (fun _ _ h => h) ?_
        refine T_region ?_
        refine S_ 20 rfl rfl rfl _ (y_move rfl rfl) ?_
        refine S_ 21 rfl rfl rfl _ (y_bin rfl rfl rfl (fun hg => b_addv (((j + 1 : Nat) : Int)) (by omega) (by omega))) ?_
        refine S_ 6 rfl rfl rfl _ (y_assign rfl rfl) ?_
        refine S_nil (nextK3 (kf := [(5, 7), (16, 35)]) (kl := [(0, 0), (5, 7), (16, 35)]) (j + 1) (k + 1) (M.set k x) (by repeat (first | exact kf_nil | (apply kf_in; focus rfl) | (apply kf_out; focus rfl))) (by repeat (first | exact kl_nil | exact kl_rest (by assumption) rfl | (apply kl_in; focus rfl) | (apply kl_out; focus rfl))) ?_ ?_ ?_ ?_)
        · omega
        · exact ⟨by rw [List.length_set]; exact hp1, hd1, hd2, by omega, by omega⟩
        · exact ⟨rfl, rfl, trivial⟩
        · exact ⟨rfl, trivial⟩
      · skip
        have h29 : p x = true := by simpa using h29
        obtain ⟨hd1, hd2⟩ := del_skipP hp2 hp3 hx1 h29
        refine T_skip_go (fun _ _ h => h) ?_
        refine T_region ?_
        refine S_ 20 rfl rfl rfl _ (y_move rfl rfl) ?_
        refine S_ 21 rfl rfl rfl _ (y_bin rfl rfl rfl (fun hg => b_addv (((j + 1 : Nat) : Int)) (by omega) (by omega))) ?_
        refine S_ 6 rfl rfl rfl _ (y_assign rfl rfl) ?_
        refine S_nil (nextK3 (kf := [(5, 7), (16, 35)]) (kl := [(0, 0), (5, 7), (16, 35)]) (j + 1) k M (by repeat (first | exact kf_nil | (apply kf_in; focus rfl) | (apply kf_out; focus rfl))) (by repeat (first | exact kl_nil | exact kl_rest (by assumption) rfl | (apply kl_in; focus rfl) | (apply kl_out; focus rfl))) ?_ ?_ ?_ ?_)
        · omega
        · exact ⟨hp1, hd1, hd2, by omega, by omega⟩
        · exact ⟨rfl, rfl, trivial⟩
        · exact ⟨rfl, trivial⟩
    · try simp only [decide_eq_true_eq, decide_eq_false_iff_not, Bool.or_eq_true, Bool.or_eq_false_iff, Bool.and_eq_true, Bool.and_eq_false_iff, Bool.not_eq_true', Bool.not_eq_false', Bool.not_eq_true, Bool.not_eq_false, Bool.not_true, Bool.not_false, Int.not_lt, Int.not_le, not_or, not_and, Classical.not_not] at h19
      have hfin : (l.filter (notQ p)) = M.take k := by rw [hp2, List.take_of_length_le (by omega)]
      have hkl : (M.take k).length = k := by rw [List.length_take]; omega
      refine T_exit_go (fun _ _ h => h) ?_
      refine T_seq ?_
      refine T_region ?_
      refine S_ 36 rfl rfl rfl _ (y_move rfl rfl) ?_
      refine S_ 37 rfl rfl rfl _ (y_move rfl rfl) ?_
      refine S_ 38 rfl rfl rfl _ (y_slice (lo := k) (hi := q) rfl rfl Tryz.underlying196 sz199 (.inr ⟨_, _, rfl, rfl⟩) (.inl ⟨rfl, rfl⟩) (by omega) (Nat.le_refl _) hcap) ?_
      refine S_clearTail 0 (k) rfl rfl rfl rfl rfl ?_ Tryz.underlying196 z199 rfl rfl ?_
      · omega
      refine S_go (fun _ _ h => h) ?_
      refine T_seq ?_
      refine T_region ?_
      refine S_ 39 rfl rfl rfl _ (y_move rfl rfl) ?_
      refine S_ 40 rfl rfl rfl _ (y_move rfl rfl) ?_
      refine S_ 41 rfl rfl rfl _ (y_as (v' := .slice A k c) (by rw [slice0, Nat.sub_zero, Nat.sub_zero]) (y_slice (lo := 0) (hi := k) rfl rfl Tryz.underlying196 sz199 (.inl ⟨rfl, rfl⟩) (.inr ⟨_, _, rfl, rfl⟩) (by omega) (by omega) hcap)) ?_
      refine S_ 4 rfl rfl rfl _ (y_assign rfl rfl) ?_
      refine S_go (fun _ _ h => h) ?_
      refine T_ret (fun a w hF hM => hRb a w (post1 rfl rfl (fun w hM => ?_) a w hF hM))
      exact ⟨k, rfl, by rw [hfin, hkl], hM.keep (ks := [(0, 999)]) (by repeat (first | exact kl_rest (by assumption) rfl | (apply kl_in; focus rfl))) _ ⟨by rw [hfin, ← flat_takeP (enc := spE) (size := 2) (fun _ => rfl)]; rfl, rfl, trivial⟩⟩
end Go.Proofs.YtfmbgaaonfgenaaGreatDoor
end
section
namespace Go.Proofs.YtfmbgaaonfgenaaGreatDoor
set_option linter.unusedSimpArgs false
set_option linter.unusedVariables false
set_option maxRecDepth 20000
open Go.RowKit Go.Eng
def digM (c : UInt8) : Bool := decide (48 ≤ (c.toNat : Int)) && decide ((c.toNat : Int) ≤ 57)
def hexM (c : UInt8) : Bool := digM c || (decide (97 ≤ (c.toNat : Int)) && decide ((c.toNat : Int) ≤ 102))
def malM (c : UInt8) : Bool := digM c || (decide (97 ≤ (c.toNat : Int)) && decide ((c.toNat : Int) ≤ 122)) || (decide (65 ≤ (c.toNat : Int)) && decide ((c.toNat : Int) ≤ 90)) || decide ((c.toNat : Int) = 46) || decide ((c.toNat : Int) = 45) || decide ((c.toNat : Int) = 95)
theorem isDig_any (c : UInt8) (w : World) : Calls Tryz.prog 165 #[.int .u8 (c.toNat : Int)] w fun e w' => e = .returned (.bool (digM c)) ∧ Below w.heap.size w w' := by
  refine enter_args (args := [.int .u8 (c.toNat : Int)]) (F := _) Tryz.func165 rfl Tryz.ntmps165 rfl rfl ?_
  intro Rb hRb hRn
  refine T_seq ?_
  refine T_region ?_
  refine S_ 2 rfl rfl rfl _ (y_assign rfl rfl) ?_
  refine S_go (fun _ _ h => h) ?_
  refine T_seq ?_
  refine T_region ?_
  refine S_ 3 rfl rfl rfl _ (y_move rfl rfl) ?_
  refine S_ 4 rfl rfl rfl _ (y_bin rfl rfl rfl (fun _ => b_geq)) ?_
  refine S_ 5 rfl rfl rfl _ (y_move rfl rfl) ?_
  refine Sg_ 6 rfl rfl rfl rfl rfl rfl _ (y_move rfl rfl) ?_
  refine Sg_ 7 rfl rfl rfl rfl rfl rfl _ (y_bin rfl rfl rfl (fun _ => b_leq)) ?_
  refine S_ 8 rfl rfl rfl _ (y_and rfl rfl rfl) ?_
  refine S_ 2 rfl rfl rfl _ (y_assign rfl rfl) ?_
  refine S_go (fun _ _ h => h) ?_
  refine T_ret (fun a w hF hM => hRb a w (post1 rfl rfl (fun w hM => ?_) a w hF hM))
  exact ⟨rfl, hM.below⟩
theorem isHex_any (c : UInt8) (w : World) : Calls Tryz.prog 167 #[.int .u8 (c.toNat : Int)] w fun e w' => e = .returned (.bool (hexM c)) ∧ Below w.heap.size w w' := by
  refine enter_args (args := [.int .u8 (c.toNat : Int)]) (F := _) Tryz.func167 rfl Tryz.ntmps167 rfl rfl ?_
  intro Rb hRb hRn
  refine T_seq ?_
  refine T_region ?_
  refine S_ 2 rfl rfl rfl _ (y_assign rfl rfl) ?_
  refine S_go (fun _ _ h => h) ?_
  refine T_seq ?_
  refine T_region ?_
  refine S_ 3 rfl rfl rfl _ (y_move rfl rfl) ?_
  refine S_ 4 rfl rfl rfl _ (y_call rfl rfl rfl cf165 (fun _ w _ => isDig_any c w)) ?_
  refine S_ 5 rfl rfl rfl _ (y_move rfl rfl) ?_
  refine Sg_ 6 rfl rfl rfl rfl rfl rfl _ (y_move rfl rfl) ?_
  refine Sg_ 7 rfl rfl rfl rfl rfl rfl _ (y_bin rfl rfl rfl (fun _ => b_geq)) ?_
  refine Sg_ 8 rfl rfl rfl rfl rfl rfl _ (y_move rfl rfl) ?_
  refine Sg_ 9 rfl rfl rfl rfl rfl rfl _ (y_move rfl rfl) ?_
  refine Sg_ 10 rfl rfl rfl rfl rfl rfl _ (y_bin rfl rfl rfl (fun _ => b_leq)) ?_
  refine Sg_ 11 rfl rfl rfl rfl rfl rfl _ (y_and rfl rfl rfl) ?_
  refine S_ 12 rfl rfl rfl _ (y_or rfl rfl rfl) ?_
  refine S_ 2 rfl rfl rfl _ (y_assign rfl rfl) ?_
  refine S_go (fun _ _ h => h) ?_
  refine T_ret (fun a w hF hM => hRb a w (post1 rfl rfl (fun w hM => ?_) a w hF hM))
  exact ⟨rfl, hM.below⟩
theorem isMal_any (c : UInt8) (w : World) : Calls Tryz.prog 215 #[.int .u8 (c.toNat : Int)] w fun e w' => e = .returned (.bool (malM c)) ∧ Below w.heap.size w w' := by
  refine enter_args (args := [.int .u8 (c.toNat : Int)]) (F := _) Tryz.func215 rfl Tryz.ntmps215 rfl rfl ?_
  intro Rb hRb hRn
  refine T_seq ?_
  refine T_region ?_
  refine S_ 2 rfl rfl rfl _ (y_assign rfl rfl) ?_
  refine S_go (fun _ _ h => h) ?_
  refine T_seq ?_
  refine T_region ?_
  refine S_ 3 rfl rfl rfl _ (y_move rfl rfl) ?_
  refine S_ 4 rfl rfl rfl _ (y_call rfl rfl rfl cf165 (fun _ w _ => isDig_any c w)) ?_
  refine S_ 5 rfl rfl rfl _ (y_move rfl rfl) ?_
  refine Sg_ 6 rfl rfl rfl rfl rfl rfl _ (y_move rfl rfl) ?_
  refine Sg_ 7 rfl rfl rfl rfl rfl rfl _ (y_bin rfl rfl rfl (fun _ => b_geq)) ?_
  refine Sg_ 8 rfl rfl rfl rfl rfl rfl _ (y_move rfl rfl) ?_
  refine Sg_ 9 rfl rfl rfl rfl rfl rfl _ (y_move rfl rfl) ?_
  refine Sg_ 10 rfl rfl rfl rfl rfl rfl _ (y_bin rfl rfl rfl (fun _ => b_leq)) ?_
  refine Sg_ 11 rfl rfl rfl rfl rfl rfl _ (y_and rfl rfl rfl) ?_
  refine S_ 12 rfl rfl rfl _ (y_or rfl rfl rfl) ?_
  refine S_ 13 rfl rfl rfl _ (y_move rfl rfl) ?_
  refine Sg_ 14 rfl rfl rfl rfl rfl rfl _ (y_move rfl rfl) ?_
  refine Sg_ 15 rfl rfl rfl rfl rfl rfl _ (y_bin rfl rfl rfl (fun _ => b_geq)) ?_
  refine Sg_ 16 rfl rfl rfl rfl rfl rfl _ (y_move rfl rfl) ?_
  refine Sg_ 17 rfl rfl rfl rfl rfl rfl _ (y_move rfl rfl) ?_
  refine Sg_ 18 rfl rfl rfl rfl rfl rfl _ (y_bin rfl rfl rfl (fun _ => b_leq)) ?_
  refine Sg_ 19 rfl rfl rfl rfl rfl rfl _ (y_and rfl rfl rfl) ?_
  refine S_ 20 rfl rfl rfl _ (y_or rfl rfl rfl) ?_
  refine S_ 21 rfl rfl rfl _ (y_move rfl rfl) ?_
  refine Sg_ 22 rfl rfl rfl rfl rfl rfl _ (y_move rfl rfl) ?_
  refine Sg_ 23 rfl rfl rfl rfl rfl rfl _ (y_bin rfl rfl rfl (fun _ => b_eql)) ?_
  refine S_ 24 rfl rfl rfl _ (y_or rfl rfl rfl) ?_
  refine S_ 25 rfl rfl rfl _ (y_move rfl rfl) ?_
  refine Sg_ 26 rfl rfl rfl rfl rfl rfl _ (y_move rfl rfl) ?_
  refine Sg_ 27 rfl rfl rfl rfl rfl rfl _ (y_bin rfl rfl rfl (fun _ => b_eql)) ?_
  refine S_ 28 rfl rfl rfl _ (y_or rfl rfl rfl) ?_
  refine S_ 29 rfl rfl rfl _ (y_move rfl rfl) ?_
  refine Sg_ 30 rfl rfl rfl rfl rfl rfl _ (y_move rfl rfl) ?_
  refine Sg_ 31 rfl rfl rfl rfl rfl rfl _ (y_bin rfl rfl rfl (fun _ => b_eql)) ?_
  refine S_ 32 rfl rfl rfl _ (y_or rfl rfl rfl) ?_
  refine S_ 2 rfl rfl rfl _ (y_assign rfl rfl) ?_
  refine S_go (fun _ _ h => h) ?_
  refine T_ret (fun a w hF hM => hRb a w (post1 rfl rfl (fun w hM => ?_) a w hF hM))
  exact ⟨rfl, hM.below⟩
/-- rows, walked: what is left from a place on -/
abbrev rwsL (is : UInt8 → Bool) (s : List UInt8) (i : Nat) : List Sp := rowsF is s (s.length - i) i
theorem rws_no {is : UInt8 → Bool} {s : List UInt8} {i : Nat} (h : i < s.length) (hc : is (s.getD i 0) = false) : rwsL is s i = rwsL is s (i + 1) := by
  unfold rwsL
  rw [show s.length - i = (s.length - (i + 1)) + 1 by omega, rowsF, if_neg (by rw [hc]; simp)]
theorem rws_is {is : UInt8 → Bool} {s : List UInt8} {i : Nat} (h : i < s.length) (hc : is (s.getD i 0) = true) : rwsL is s i = (i, i + hdN is (s.drop i)) :: rwsL is s (i + hdN is (s.drop i) + 1) := by
  unfold rwsL
  rw [show s.length - i = (s.length - (i + 1)) + 1 by omega, rowsF, if_pos hc, show s.length - (i + 1) - hdN is (s.drop i) = s.length - (i + hdN is (s.drop i) + 1) by omega]
theorem rws_end {is : UInt8 → Bool} {s : List UInt8} {i : Nat} (h : s.length ≤ i) : rwsL is s i = [] := by
  unfold rwsL
  rw [show s.length - i = 0 by omega, rowsF]
theorem hd_more {is : UInt8 → Bool} {s : List UInt8} {i j : Nat} (h1 : i ≤ j) (h2 : j ≤ i + hdN is (s.drop i)) (h3 : j < s.length) (h : is (s.getD j 0) = true) : j + 1 ≤ i + hdN is (s.drop i) := by
  refine Classical.byContradiction fun hn => ?_
  have e : j = i + hdN is (s.drop i) := by omega
  have := hdN_end is (s.drop i) (by rw [List.length_drop]; omega)
  rw [getD_drop, ← e, h] at this
  cases this
theorem hd_stop {is : UInt8 → Bool} {s : List UInt8} {i j : Nat} (h1 : i ≤ j) (h2 : j ≤ i + hdN is (s.drop i)) (h : j < s.length → is (s.getD j 0) = false) : j = i + hdN is (s.drop i) := by
  refine Classical.byContradiction fun hn => ?_
  have hl := hdN_le is (s.drop i)
  rw [List.length_drop] at hl
  have := hdN_at is (s.drop i) (j - i) (by omega)
  rw [getD_drop, show i + (j - i) = j by omega, h (by omega)] at this
  cases this
theorem rowsF_len (is : UInt8 → Bool) (s : List UInt8) : ∀ (n i : Nat), (rowsF is s n i).length ≤ n
  | 0, i => by rw [rowsF]; exact Nat.le_refl _
  | n + 1, i => by
    rw [rowsF]
    split
    · have := rowsF_len is s (n - hdN is (s.drop i)) (i + hdN is (s.drop i) + 1)
      rw [List.length_cons]; omega
    · have := rowsF_len is s n (i + 1); omega
theorem rows_any (s : List UInt8) (hs : s.length ≤ 1000000) (g : FuncId) (is : UInt8 → Bool) (hcf : ∀ args w, (callFunc g args).run Tryz.prog w = .ok (.enter g args) w)
    (hg : ∀ c w, Calls Tryz.prog g #[.int .u8 (c.toNat : Int)] w fun e w' => e = .returned (.bool (is c)) ∧ Below w.heap.size w w') (w : World) :
    Calls Tryz.prog 164 #[str s, .func (.func g) #[] #[]] w fun e w' => ∃ A c, e = .returned (.slice A (rowsF is s s.length 0).length c) ∧ w'.ownsRow w.heap.size 199 2 (.slice A (rowsF is s s.length 0).length c) (rowsF is s s.length 0).length ((rowsF is s s.length 0).flatMap spE) ∧ Below w.heap.size w w' := by
  refine enter_args (args := [str s, .func (.func g) #[] #[]]) (F := _) Tryz.func164 rfl Tryz.ntmps164 rfl rfl ?_
  intro Rb hRb hRn
  refine T_seq ?_
  refine T_region ?_
  refine S_nilSlice 4 (e := 199) (size := 2) ?_
  refine S_ 4 rfl rfl rfl _ (y_assign rfl rfl) ?_
  refine S_go (fun _ _ h => h) ?_
  refine T_seq ?_
  refine T_region ?_
  refine S_nilSlice 905 (e := 199) (size := 2) ?_
  refine S_nilSlice 5 (e := 199) (size := 2) ?_
  refine S_ 5 rfl rfl rfl _ (y_assign rfl rfl) ?_
  refine S_go (fun _ _ h => h) ?_
  refine T_seq ?_
  refine T_seq ?_
  refine T_region ?_
  refine S_ 6 rfl rfl rfl _ (y_assign rfl rfl) ?_
  refine S_go (fun _ _ h => h) ?_
  refine T_block ?_
  refine T_loopK4 (kf := [(5, 39)]) (kl := [(5, 39), (905, 905)]) (fun (i : Nat) (A : Option Addr) (c : Nat) (out : List Sp) => [(6, true, .int .i64 (i : Int)), (5, true, .slice A out.length c)]) (fun (i : Nat) (A : Option Addr) (c : Nat) (out : List Sp) => [(905, .own 199 2 (.slice A out.length c) out.length (out.flatMap spE))]) (fun (i : Nat) (A : Option Addr) (c : Nat) (out : List Sp) => i ≤ s.length + 1 ∧ rwsL is s 0 = out ++ rwsL is s i) (fun (i : Nat) (A : Option Addr) (c : Nat) (out : List Sp) => s.length + 1 - i) 0 none 0 [] (by repeat (first | exact kf_nil | (apply kf_in; focus rfl) | (apply kf_out; focus rfl))) (by repeat (first | exact kl_nil | exact kl_rest (by assumption) rfl | (apply kl_in; focus rfl) | (apply kl_out; focus rfl))) ?_ ?_ ?_ ?_
  · exact ⟨by omega, rfl⟩
  · exact ⟨rfl, rfl, trivial⟩
  · exact ⟨rfl, trivial⟩
  rintro i A c out ⟨hp1, hp2⟩
  refine T_seq ?_
  refine T_seq ?_
  refine T_region ?_
  refine S_ 8 rfl rfl rfl _ (y_move rfl rfl) ?_
  refine S_ 9 rfl rfl rfl _ (y_move rfl rfl) ?_
  refine S_ 10 rfl rfl rfl _ (y_len_str rfl rfl Tryz.underlying9) ?_
  refine S_ 11 rfl rfl rfl _ (y_bin rfl rfl rfl (fun _ => b_lss)) ?_
  refine S_go (fun _ _ h => h) ?_
  refine T_cond rfl (fun h11 => ?_) (fun h11 => ?_)
  · try simp only [decide_eq_true_eq, decide_eq_false_iff_not, Bool.or_eq_true, Bool.or_eq_false_iff, Bool.and_eq_true, Bool.and_eq_false_iff, Bool.not_eq_true', Bool.not_eq_false', Bool.not_eq_true, Bool.not_eq_false, Bool.not_true, Bool.not_false, Int.not_lt, Int.not_le, not_or, not_and, Classical.not_not] at h11
    refine T_skip_go (fun _ _ h => h) ?_
    refine T_seq ?_
    refine T_block ?_
    refine T_seq ?_
    refine T_seq ?_
    refine T_region ?_
    refine S_ 14 rfl rfl rfl _ (y_move rfl rfl) ?_
    refine S_ 15 rfl rfl rfl _ (y_move rfl rfl) ?_
    refine S_ 16 rfl rfl rfl _ (y_move rfl rfl) ?_
    refine S_ 17 rfl rfl rfl _ (y_index_str rfl rfl rfl Tryz.underlying9 (fun _ => by omega)) ?_
    refine S_ 18 rfl rfl rfl _ (y_as (v' := .bool (is (s.getD i 0))) (by exact rfl) (y_call rfl rfl rfl hcf (fun _ w _ => hg _ w))) ?_
    refine S_ 19 rfl rfl rfl _ (y_not rfl rfl) ?_
    refine S_go (fun _ _ h => h) ?_
    refine T_cond rfl (fun h19 => ?_) (fun h19 => ?_)
    · skip
      have h19 : is (s.getD i 0) = false := by simpa using h19
      have hi : i < s.length := by omega
      rw [rws_no hi h19] at hp2
      refine T_exit_go (fun _ _ h => h) ?_
      refine T_region ?_
      refine S_ 12 rfl rfl rfl _ (y_move rfl rfl) ?_
      refine S_ 13 rfl rfl rfl _ (y_bin rfl rfl rfl (fun hg => b_add (by omega))) ?_
      refine S_ 6 rfl rfl rfl _ (y_assign rfl rfl) ?_
      refine S_nil (nextK4 (kf := [(5, 39)]) (kl := [(5, 39), (905, 905)]) (i + 1) A c out (by repeat (first | exact kf_nil | (apply kf_in; focus rfl) | (apply kf_out; focus rfl))) (by repeat (first | exact kl_nil | exact kl_rest (by assumption) rfl | (apply kl_in; focus rfl) | (apply kl_out; focus rfl))) ?_ ?_ ?_ ?_)
      · omega
      · exact ⟨by omega, hp2⟩
      · exact ⟨rfl, rfl, trivial⟩
      · exact ⟨rfl, trivial⟩
    · skip
      have h19 : is (s.getD i 0) = true := by simpa using h19
      have hi : i < s.length := by omega
      have hhl := hdN_le is (s.drop i)
      rw [List.length_drop] at hhl
      refine T_skip_go (fun _ _ h => h) ?_
      refine T_seq ?_
      refine T_region ?_
      refine S_ 20 rfl rfl rfl _ (y_move rfl rfl) ?_
      refine S_ 7 rfl rfl rfl _ (y_assign rfl rfl) ?_
      refine S_go (fun _ _ h => h) ?_
      refine T_seq ?_
      refine T_block ?_
      refine T_loopK1 (kf := [(6, 6), (21, 33)]) (kl := [(6, 6), (21, 33)]) (fun (j : Nat) => [(6, true, .int .i64 (j : Int))]) (fun (j : Nat) => []) (fun (j : Nat) => i ≤ j ∧ j ≤ i + hdN is (s.drop i)) (fun (j : Nat) => s.length - j) i (by repeat (first | exact kf_nil | (apply kf_in; focus rfl) | (apply kf_out; focus rfl))) (by repeat (first | exact kl_nil | exact kl_rest (by assumption) rfl | (apply kl_in; focus rfl) | (apply kl_out; focus rfl))) ?_ ?_ ?_ ?_
      · exact ⟨by omega, by omega⟩
      · exact ⟨rfl, trivial⟩
      · exact trivial
      rintro j ⟨hr1, hr2⟩
      refine T_seq ?_
      refine T_seq ?_
      refine T_region ?_
      refine S_ 21 rfl rfl rfl _ (y_move rfl rfl) ?_
      refine S_ 22 rfl rfl rfl _ (y_move rfl rfl) ?_
      refine S_ 23 rfl rfl rfl _ (y_len_str rfl rfl Tryz.underlying9) ?_
      refine S_ 24 rfl rfl rfl _ (y_bin rfl rfl rfl (fun _ => b_lss)) ?_
      refine S_ 25 rfl rfl rfl _ (y_move rfl rfl) ?_
      refine Sg_ 26 rfl rfl rfl rfl rfl rfl _ (y_move rfl rfl) ?_
      refine Sg_ 27 rfl rfl rfl rfl rfl rfl _ (y_move rfl rfl) ?_
      refine Sg_ 28 rfl rfl rfl rfl rfl rfl _ (y_move rfl rfl) ?_
      refine Sg_ 29 rfl rfl rfl rfl rfl rfl _ (y_index_str rfl rfl rfl Tryz.underlying9 (fun hg => by simp only [Bool.true_and, Bool.and_eq_true, beq_iff_eq, decide_eq_true_eq, decide_eq_false_iff_not, Int.not_lt, Int.not_le] at hg; omega)) ?_
      refine Sg_ 30 rfl rfl rfl rfl rfl rfl _ (y_call rfl rfl rfl hcf (fun _ w _ => hg _ w)) ?_
      refine S_ 31 rfl rfl rfl _ (y_and rfl rfl rfl) ?_
      refine S_go (fun _ _ h => h) ?_
      refine T_cond rfl (fun h31 => ?_) (fun h31 => ?_)
      · skip
        simp only [Bool.and_eq_true, decide_eq_true_eq] at h31
        have hj := hd_more hr1 hr2 (by omega) h31.2
        refine T_skip_go (fun _ _ h => h) ?_
        refine T_block ?_
        refine T_region ?_
        refine S_ 32 rfl rfl rfl _ (y_move rfl rfl) ?_
        refine S_ 33 rfl rfl rfl _ (y_bin rfl rfl rfl (fun hg => b_add (by omega))) ?_
        refine S_ 6 rfl rfl rfl _ (y_assign rfl rfl) ?_
        refine S_nil (nextK1 (kf := [(6, 6), (21, 33)]) (kl := [(6, 6), (21, 33)]) (j + 1) (by repeat (first | exact kf_nil | (apply kf_in; focus rfl) | (apply kf_out; focus rfl))) (by repeat (first | exact kl_nil | exact kl_rest (by assumption) rfl | (apply kl_in; focus rfl) | (apply kl_out; focus rfl))) ?_ ?_ ?_ ?_)
        · omega
        · exact ⟨by omega, hj⟩
        · exact ⟨rfl, trivial⟩
        · exact trivial
      · skip
        have hj := hd_stop hr1 hr2 (fun hlt => by rw [decide_eq_true (by omega), Bool.true_and] at h31; exact h31)
        subst hj
        rw [rws_is hi h19] at hp2
        have hol := congrArg List.length hp2
        rw [List.length_append, List.length_cons] at hol
        have hrl : (rwsL is s 0).length ≤ s.length := rowsF_len is s s.length 0
        refine T_exit_go (fun _ _ h => h) ?_
        refine T_region ?_
        refine S_ 34 rfl rfl rfl _ (y_move rfl rfl) ?_
        refine S_ 35 rfl rfl rfl _ (y_move rfl rfl) ?_
        refine S_ 36 rfl rfl rfl _ (y_move rfl rfl) ?_
        refine S_ 37 rfl rfl rfl _ (y_build (zv := .agg #[.int .i64 0, .int .i64 0]) (pl := [(0, 1), (1, 1)]) (out := [_, _]) rfl rfl Tryz.underlying199 z199 (by kernel_rfl) rfl) ?_
        refine S_buildSlice 38 38 rfl rfl rfl rfl rfl Tryz.underlying196 inf199 rfl (by decide) (by decide) rfl rfl (by decide) rfl (_) rfl ?_
        intro b38
        obtain ⟨i39, hi39, hz39, hs39, hy39⟩ := info_parts inf199
        refine S_append 39 905 38 rfl rfl rfl rfl rfl rfl rfl rfl Tryz.underlying196 hi39 hz39 hs39 hy39 rfl (by decide) (by decide) rfl ?_ ?_ ((out ++ [(i, i + hdN is (s.drop i))]).length) ((out ++ [(i, i + hdN is (s.drop i))]).flatMap spE) ?_ ?_ ?_
        · (simp only [maxLen]; omega)
        · omega
        · rw [List.length_append]; rfl
        · rw [List.flatMap_append]; rfl
        intro A39 c39
        refine S_ 5 rfl rfl rfl _ (y_assign rfl rfl) ?_
        refine S_go (fun _ _ h => h) ?_
        refine T_region ?_
        refine S_ 12 rfl rfl rfl _ (y_move rfl rfl) ?_
        refine S_ 13 rfl rfl rfl _ (y_bin rfl rfl rfl (fun hg => b_add (by omega))) ?_
        refine S_ 6 rfl rfl rfl _ (y_assign rfl rfl) ?_
        refine S_nil (nextK4 (kf := [(5, 39)]) (kl := [(5, 39), (905, 905)]) (i + hdN is (s.drop i) + 1) A39 c39 (out ++ [(i, i + hdN is (s.drop i))]) (by repeat (first | exact kf_nil | (apply kf_in; focus rfl) | (apply kf_out; focus rfl))) (by repeat (first | exact kl_nil | exact kl_rest (by assumption) rfl | (apply kl_in; focus rfl) | (apply kl_out; focus rfl))) ?_ ?_ ?_ ?_)
        · omega
        · exact ⟨by omega, by rw [hp2]; simp⟩
        · exact ⟨rfl, rfl, trivial⟩
        · exact ⟨rfl, trivial⟩
  · try simp only [decide_eq_true_eq, decide_eq_false_iff_not, Bool.or_eq_true, Bool.or_eq_false_iff, Bool.and_eq_true, Bool.and_eq_false_iff, Bool.not_eq_true', Bool.not_eq_false', Bool.not_eq_true, Bool.not_eq_false, Bool.not_true, Bool.not_false, Int.not_lt, Int.not_le, not_or, not_and, Classical.not_not] at h11
    have hfin : rowsF is s s.length 0 = out := (show rwsL is s 0 = out from by rw [hp2, rws_end (by omega), List.append_nil])
    refine T_exit_go (fun _ _ h => h) ?_
    refine T_seq ?_
    refine T_region ?_
    refine S_ 40 rfl rfl rfl _ (y_move rfl rfl) ?_
    refine S_ 4 rfl rfl rfl _ (y_assign rfl rfl) ?_
    refine S_go (fun _ _ h => h) ?_
    refine T_ret (fun a w hF hM => hRb a w (post1 rfl rfl (fun w hM => ?_) a w hF hM))
    rw [hfin]
    exact ⟨A, c, rfl, hM.sat 905 _ rfl, hM.below⟩
end Go.Proofs.YtfmbgaaonfgenaaGreatDoor
end
section
namespace Go.Proofs.YtfmbgaaonfgenaaGreatDoor
set_option linter.unusedSimpArgs false
set_option linter.unusedVariables false
set_option maxRecDepth 20000
open Go.RowKit Go.Eng
def outI (n lo hi : Int) : Bool := decide (n < lo) || decide (hi < n)
/-- the first fault of a list -/
def fstL {α : Type} (f : α → Int) : List α → Int
  | [] => 0
  | a :: r => if f a ≠ 0 then f a else fstL f r
/-! ### What is cleared -/
structure SRl where
  wh : Int
  nm : List UInt8
  fd : Int
  ls : Int
  tx : List UInt8
  dd : Int
def SRl.enc (r : SRl) : List Value := [.int .i64 r.wh, str r.nm, .int .i64 r.fd, .int .i64 r.ls, str r.tx, .int .i64 r.dd]
def SRl.val (r : SRl) : Value := .agg r.enc.toArray
def patBs : List UInt8 := [97, 98, 99, 100, 101, 102, 103, 104, 105, 106, 107, 108, 109, 110, 111, 112, 113, 114, 115, 116, 117, 118, 119, 120, 121, 122, 48, 49, 50, 51, 52, 53, 54, 55, 56, 57, 45, 46, 95, 42]
def bytBad (c : UInt8) : Bool := decide ((c.toNat : Int) < 33) || decide ((126 : Int) < (c.toNat : Int))
def rlNmd (r : SRl) : Bool := decide (r.wh = 2) || decide (r.wh = 3)
def rlCtd (r : SRl) : Bool := decide (r.fd = 2) || decide (r.fd = 4)
def rlF1 (r : SRl) : Bool := outI r.wh 1 5 || outI r.fd 1 5 || outI r.dd 1 3
def rlF2 (r : SRl) : Bool := !decide ((!decide (r.nm = [])) = rlNmd r) || (!decide (r.ls = 0) && !rlCtd r) || !decide ((!decide (r.tx = [])) = decide (r.fd = 5))
def rlF3 (r : SRl) : Bool := decide ((40 : Int) < r.nm.length) || decide ((40 : Int) < r.tx.length)
def rlNo (r : SRl) : Int := if rlF1 r = true then 10 else if rlF2 r = true then 1 else if rlF3 r = true then 4 else if ¬ Lib.trimS r.nm patBs = [] then 9 else if r.tx.any bytBad = true then 9 else if (rlCtd r && outI r.ls 1 100) = true then 2 else 0
def clearNo (l : Sl SRl) : Int := if (50 : Int) < l.q then 4 else fstL rlNo l.l
structure RlsOk (w : World) (l : Sl SRl) : Prop where
  ok : l.Ok SRl.enc 6 w
  q : l.q ≤ 4611686018427387904
  n : ∀ r ∈ l.l, r.nm.length ≤ 4611686018427387904 ∧ r.tx.length ≤ 4611686018427387904
theorem RlsOk.below {w w' : World} {l : Sl SRl} (h : RlsOk w l) (hb : Below w.heap.size w w') : RlsOk w' l := ⟨h.ok.below hb, h.q, h.n⟩
/-! ### Groups -/
structure SMt where
  on : Int
  no : Bool
  gl : List UInt8
def SMt.enc (m : SMt) : List Value := [.int .i64 m.on, .bool m.no, str m.gl]
def SMt.val (m : SMt) : Value := .agg m.enc.toArray
structure SAc where
  dd : Int
  n : Int
  tx : List UInt8
def SAc.enc (a : SAc) : List Value := [.int .i64 a.dd, .int .i64 a.n, str a.tx]
def SAc.val (a : SAc) : Value := .agg a.enc.toArray
structure SGr where
  ifs : Sl SMt
  ths : Sl SAc
def SGr.enc (r : SGr) : List Value := [.slice r.ifs.A r.ifs.q r.ifs.c, .slice r.ths.A r.ths.q r.ths.c]
def SGr.val (r : SGr) : Value := .agg r.enc.toArray
structure GrOk (w : World) (r : SGr) : Prop where
  iok : r.ifs.Ok SMt.enc 3 w
  iq : r.ifs.q ≤ 4611686018427387904
  il : ∀ m ∈ r.ifs.l, m.gl.length ≤ 4611686018427387904
  tok : r.ths.Ok SAc.enc 3 w
  tq : r.ths.q ≤ 4611686018427387904
  tl : ∀ a ∈ r.ths.l, a.tx.length ≤ 4611686018427387904
theorem GrOk.below {w w' : World} {r : SGr} (h : GrOk w r) (hb : Below w.heap.size w w') : GrOk w' r := ⟨h.iok.below hb, h.iq, h.il, h.tok.below hb, h.tq, h.tl⟩
structure GrsOk (w : World) (l : Sl SGr) : Prop where
  ok : l.Ok SGr.enc 2 w
  q : l.q ≤ 4611686018427387904
  n : ∀ r ∈ l.l, GrOk w r
theorem GrsOk.below {w w' : World} {l : Sl SGr} (h : GrsOk w l) (hb : Below w.heap.size w w') : GrsOk w' l := ⟨h.ok.below hb, h.q, fun r hr => (h.n r hr).below hb⟩
/-! ### Quotas, rates, alerts, the plan -/
structure SQt where
  nm : List UInt8
  ky : List UInt8
  sz : Int
  ad : Int
  ev : Int
def SQt.enc (q : SQt) : List Value := [str q.nm, str q.ky, .int .i64 q.sz, .int .i64 q.ad, .int .i64 q.ev]
def SQt.val (q : SQt) : Value := .agg q.enc.toArray
structure QtsOk (w : World) (l : Sl SQt) : Prop where
  ok : l.Ok SQt.enc 5 w
  q : l.q ≤ 4611686018427387904
  n : ∀ q ∈ l.l, q.nm.length ≤ 4611686018427387904 ∧ q.ky.length ≤ 4611686018427387904
theorem QtsOk.below {w w' : World} {l : Sl SQt} (h : QtsOk w l) (hb : Below w.heap.size w w') : QtsOk w' l := ⟨h.ok.below hb, h.q, h.n⟩
structure SRt where
  ky : List UInt8
  kp : Int
def SRt.enc (r : SRt) : List Value := [str r.ky, .int .i64 r.kp]
def SRt.val (r : SRt) : Value := .agg r.enc.toArray
structure RtsOk (w : World) (l : Sl SRt) : Prop where
  ok : l.Ok SRt.enc 2 w
  q : l.q ≤ 4611686018427387904
  n : ∀ r ∈ l.l, r.ky.length ≤ 4611686018427387904
theorem RtsOk.below {w w' : World} {l : Sl SRt} (h : RtsOk w l) (hb : Below w.heap.size w w') : RtsOk w' l := ⟨h.ok.below hb, h.q, h.n⟩
structure SAl where
  nm : List UInt8
  ky : List UInt8
  ak : Int
  lm : Int
  wn : Int
  fr : Int
  rs : Int
def SAl.enc (r : SAl) : List Value := [str r.nm, str r.ky, .int .i64 r.ak, .int .i64 r.lm, .int .i64 r.wn, .int .i64 r.fr, .int .i64 r.rs]
def SAl.val (r : SAl) : Value := .agg r.enc.toArray
structure AlsOk (w : World) (l : Sl SAl) : Prop where
  ok : l.Ok SAl.enc 7 w
  q : l.q ≤ 4611686018427387904
  n : ∀ r ∈ l.l, r.nm.length ≤ 4611686018427387904 ∧ r.ky.length ≤ 4611686018427387904
theorem AlsOk.below {w w' : World} {l : Sl SAl} (h : AlsOk w l) (hb : Below w.heap.size w w') : AlsOk w' l := ⟨h.ok.below hb, h.q, h.n⟩
theorem rlF3_len {r : SRl} (h : rlF3 r = false) : r.nm.length ≤ 40 ∧ r.tx.length ≤ 40 := by
  unfold rlF3 at h
  simp only [Bool.or_eq_false_iff, decide_eq_false_iff_not] at h
  omega
end Go.Proofs.YtfmbgaaonfgenaaGreatDoor
end
