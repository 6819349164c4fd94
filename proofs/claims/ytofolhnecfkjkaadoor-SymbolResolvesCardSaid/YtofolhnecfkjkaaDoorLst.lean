/- The law SymbolResolves: Resolve and Missing are those of the reference. Conditions: those of each theorem. -/
import Derived.Test.YtofolhnecfkjkaaDoorRefB
import Derived.Test.YtofolhnecfkjkaaDoorEqS
namespace Go.Proofs.YtofolhnecfkjkaaDoor
set_option linter.unusedSimpArgs false
set_option linter.unusedVariables false
set_option maxRecDepth 20000
open Go.RowKit Go.Eng
def Frm.eqC (a b : Frm) : Bool := decide (a.m = b.m) && (decide (a.f = b.f) && (decide (a.fi = b.fi) && (decide (a.ln = b.ln) && (decide (a.ad = b.ad) && (a.own == b.own)))))
theorem Frm.eqC_iff (a b : Frm) : Frm.eqC a b = true ↔ a = b := by cases a; cases b; simp [Frm.eqC]
def sEqC (a b : List UInt8) : Bool := decide (a = b)
theorem sEqC_iff (a b : List UInt8) : sEqC a b = true ↔ a = b := by simp [sEqC]
theorem SlT.own3 {α : Type} {enc : α → List Value} {size : Nat} {e : TypeId} {w0 w : World} {L : HL} {i : Nat} {A : Option Addr} {c q : Nat} {l : List α} (hM : Mem w0 L w) (hq : l.length = q) (hL : L.get i = some (.own e size (.slice A q c) q (l.flatMap enc))) : SlT enc size w A q l := (own_ok2 hM hq hL).t
theorem EqlFr_any (A B : Option Addr) (q c p d : Nat) (l m : List (Frm)) (w : World) (hl : SlT Frm.enc 6 w A q l) (hm : SlT Frm.enc 6 w B p m) (hq : q ≤ 4611686018427387904) (hp : p ≤ 4611686018427387904) :
    Calls Tryd.prog 34 #[.slice A q c, .slice B p d] w fun e w' => e = .returned (.bool (eqLB Frm.eqC l m)) ∧ Below w.heap.size w w' := by
  have hlen := hl.len
  have hmen := hm.len
  refine enter_args (args := [.slice A q c, .slice B p d]) (F := _) Tryd.func34 rfl Tryd.ntmps34 rfl rfl ?_
  intro Rb hRb hRn
  refine T_seq ?_
  refine T_region ?_
  refine S_ 4 rfl rfl rfl _ (y_assign rfl rfl) ?_
  refine S_go (fun _ _ h => h) ?_
  refine T_seq ?_
  refine T_seq ?_
  refine T_region ?_
  refine S_ 6 rfl rfl rfl _ (y_move rfl rfl) ?_
  refine S_ 7 rfl rfl rfl _ (y_len_slice rfl rfl Tryd.underlying57) ?_
  refine S_ 8 rfl rfl rfl _ (y_move rfl rfl) ?_
  refine S_ 9 rfl rfl rfl _ (y_len_slice rfl rfl Tryd.underlying57) ?_
  refine S_ 10 rfl rfl rfl _ (y_bin rfl rfl rfl (fun _ => b_neq)) ?_
  refine S_go (fun _ _ h => h) ?_
  refine T_cond rfl (fun h10 => ?_) (fun h10 => ?_)
  · try simp only [decide_eq_true_eq, decide_eq_false_iff_not, Bool.or_eq_true, Bool.or_eq_false_iff, Bool.and_eq_true, Bool.and_eq_false_iff, Bool.not_eq_true', Bool.not_eq_false', Bool.not_eq_true, Bool.not_eq_false, Bool.not_true, Bool.not_false, Int.not_lt, Int.not_le, not_or, not_and, Classical.not_not] at h10
    refine T_seq ?_
    refine T_region ?_
    refine S_ 4 rfl rfl rfl _ (y_assign rfl rfl) ?_
    refine S_go (fun _ _ h => h) ?_
    refine T_ret (fun a w hF hM => hRb a w (post1 rfl rfl (fun w hM => ?_) a w hF hM))
    exact ⟨by rw [eqLB_len l m (by omega)], hM.below⟩
  · try simp only [decide_eq_true_eq, decide_eq_false_iff_not, Bool.or_eq_true, Bool.or_eq_false_iff, Bool.and_eq_true, Bool.and_eq_false_iff, Bool.not_eq_true', Bool.not_eq_false', Bool.not_eq_true, Bool.not_eq_false, Bool.not_true, Bool.not_false, Int.not_lt, Int.not_le, not_or, not_and, Classical.not_not] at h10
    refine T_skip_go (fun _ _ h => h) ?_
    refine T_seq ?_
    refine T_seq ?_
    refine T_region ?_
    refine S_ 11 rfl rfl rfl _ (y_move rfl rfl) ?_
    refine S_ 12 rfl rfl rfl _ (y_len_slice rfl rfl Tryd.underlying57) ?_
    refine S_ 13 rfl rfl rfl _ (y_move rfl rfl) ?_
    refine S_go (fun _ _ h => h) ?_
    refine T_block ?_
    refine T_loopK1 (kf := [(4, 5), (13, 25)]) (kl := [(4, 5), (13, 25)]) (fun (i : Nat) => [(13, true, .int .i64 (i : Int))]) (fun (i : Nat) => []) (fun (i : Nat) => i ≤ q ∧ eqLB Frm.eqC l m = eqLB Frm.eqC (l.drop i) (m.drop i)) (fun (i : Nat) => q - i) 0 (by repeat (first | exact kf_nil | (apply kf_in; focus rfl) | (apply kf_out; focus rfl))) (by repeat (first | exact kl_nil | exact kl_rest (by assumption) rfl | (apply kl_in; focus rfl) | (apply kl_out; focus rfl))) ?_ ?_ ?_ ?_
    · exact ⟨by omega, rfl⟩
    · exact ⟨rfl, trivial⟩
    · exact trivial
    rintro i ⟨hp1, hp2⟩
    refine T_seq ?_
    refine T_region ?_
    refine S_ 14 rfl rfl rfl _ (y_bin rfl rfl rfl (fun _ => b_lss)) ?_
    refine S_go (fun _ _ h => h) ?_
    refine T_seq ?_
    refine T_cond rfl (fun h14 => ?_) (fun h14 => ?_)
    · try simp only [decide_eq_true_eq, decide_eq_false_iff_not, Bool.or_eq_true, Bool.or_eq_false_iff, Bool.and_eq_true, Bool.and_eq_false_iff, Bool.not_eq_true', Bool.not_eq_false', Bool.not_eq_true, Bool.not_eq_false, Bool.not_true, Bool.not_false, Int.not_lt, Int.not_le, not_or, not_and, Classical.not_not] at h14
      obtain ⟨a, hx1, hx2⟩ := hl.at (i := i) (by omega)
      obtain ⟨b, hy1, hy2⟩ := hm.at (i := i) (by omega)
      refine T_skip_go (fun _ _ h => h) ?_
      refine T_seq ?_
      refine T_block ?_
      refine T_seq ?_
      refine T_region ?_
      refine S_ 15 rfl rfl rfl _ (y_move rfl rfl) ?_
      refine S_ 5 rfl rfl rfl _ (y_assign rfl rfl) ?_
      refine S_go (fun _ _ h => h) ?_
      refine T_seq ?_
      refine T_draws (by kernel_rfl) (by kernel_rfl) ?_
      refine D_ 16 rfl rfl rfl _ (y_move rfl rfl) ?_
      refine D_ 17 rfl rfl rfl _ (y_move rfl rfl) ?_
      refine D_ 18 rfl rfl rfl _ (y_indexAddr rfl rfl rfl Tryd.underlying57 sz67 (fun hg => hl.isSome (by omega)) (fun _ => by omega)) ?_
      refine D_ 19 rfl rfl rfl _ (y_loadT rfl rfl hl (fun _ => rfl) (fun _ => hx1) Tryd.underlying67 rfl sz67) ?_
      refine D_ 20 rfl rfl rfl _ (y_move rfl rfl) ?_
      refine D_ 21 rfl rfl rfl _ (y_move rfl rfl) ?_
      refine D_ 22 rfl rfl rfl _ (y_indexAddr rfl rfl rfl Tryd.underlying57 sz67 (fun hg => hm.isSome (by omega)) (fun _ => by omega)) ?_
      refine D_ 23 rfl rfl rfl _ (y_loadT rfl rfl hm (fun _ => rfl) (fun _ => hy1) Tryd.underlying67 rfl sz67) ?_
      refine D_ 24 rfl rfl rfl _ (y_as (v' := .bool (!(Frm.eqC a b))) (by simp [Frm.eqC, str]) (y_bin rfl rfl rfl (fun _ => b_neqA (rs := [_, _, _, _, _, _]) Tryd.underlying67 (by kernel_rfl) (by kernel_rfl) ⟨by decide, ⟨_, Tryd.underlying9, rfl, _, _, rfl, rfl, rfl⟩, by decide, ⟨_, Tryd.underlying9, rfl, _, _, rfl, rfl, rfl⟩, by decide, ⟨_, Tryd.underlying9, rfl, _, _, rfl, rfl, rfl⟩, by decide, ⟨_, Tryd.underlying3, rfl, _, _, rfl, rfl, rfl⟩, by decide, ⟨_, Tryd.underlying3, rfl, _, _, rfl, rfl, rfl⟩, by decide, ⟨_, Tryd.underlying4, rfl, _, _, rfl, rfl, rfl⟩, trivial⟩))) ?_
      refine D_go (fun _ _ h => h) ?_
      refine T_cond rfl (fun h24 => ?_) (fun h24 => ?_)
      · skip
        have h24e : Frm.eqC a b = false := by simpa using h24
        refine T_seq ?_
        refine T_region ?_
        refine S_ 4 rfl rfl rfl _ (y_assign rfl rfl) ?_
        refine S_go (fun _ _ h => h) ?_
        refine T_ret (fun a w hF hM => hRb a w (post1 rfl rfl (fun w hM => ?_) a w hF hM))
        exact ⟨by rw [hp2, hx2, hy2, eqLB, h24e, Bool.false_and], hM.below⟩
      · skip
        have h24e : Frm.eqC a b = true := by simpa using h24
        refine T_skip_go (fun _ _ h => h) ?_
        refine T_region ?_
        refine S_ 25 rfl rfl rfl _ (y_bin rfl rfl rfl (fun hg => b_add (by omega))) ?_
        refine S_ 13 rfl rfl rfl _ (y_move rfl rfl) ?_
        refine S_nil (nextK1 (kf := [(4, 5), (13, 25)]) (kl := [(4, 5), (13, 25)]) (i + 1) (by repeat (first | exact kf_nil | (apply kf_in; focus rfl) | (apply kf_out; focus rfl))) (by repeat (first | exact kl_nil | exact kl_rest (by assumption) rfl | (apply kl_in; focus rfl) | (apply kl_out; focus rfl))) ?_ ?_ ?_ ?_)
        · omega
        · exact ⟨by omega, by rw [hp2, hx2, hy2, eqLB, h24e, Bool.true_and]⟩
        · exact ⟨rfl, trivial⟩
        · exact trivial
    · try simp only [decide_eq_true_eq, decide_eq_false_iff_not, Bool.or_eq_true, Bool.or_eq_false_iff, Bool.and_eq_true, Bool.and_eq_false_iff, Bool.not_eq_true', Bool.not_eq_false', Bool.not_eq_true, Bool.not_eq_false, Bool.not_true, Bool.not_false, Int.not_lt, Int.not_le, not_or, not_and, Classical.not_not] at h14
      refine T_exit_go (fun _ _ h => h) ?_
      refine T_seq ?_
      refine T_region ?_
      refine S_ 4 rfl rfl rfl _ (y_assign rfl rfl) ?_
      refine S_go (fun _ _ h => h) ?_
      refine T_ret (fun a w hF hM => hRb a w (post1 rfl rfl (fun w hM => ?_) a w hF hM))
      exact ⟨by rw [hp2, hl.end (by omega), hm.end (by omega)]; rfl, hM.below⟩
theorem listedFr_any (A B : Option Addr) (q c p d : Nat) (l m : List (Frm)) (e x : Int) (w : World) (hl : SlT Frm.enc 6 w A q l) (hm : SlT Frm.enc 6 w B p m) (hq : q ≤ 4611686018427387904) (hp : p ≤ 4611686018427387904) (he : e = x) (hz : x ≠ 0 → l = []) (h0 : x = 0 → m = l) :
    Calls Tryd.prog 32 #[.slice A q c, .int .i64 e, .slice B p d, .int .i64 x] w fun e w' => e = .returned (.bool true) ∧ Below w.heap.size w w' := by
  subst he
  refine enter_args (args := [.slice A q c, .int .i64 e, .slice B p d, .int .i64 e]) (F := _) Tryd.func32 rfl Tryd.ntmps32 rfl rfl ?_
  intro Rb hRb hRn
  refine T_seq ?_
  refine T_region ?_
  refine S_ 8 rfl rfl rfl _ (y_assign rfl rfl) ?_
  refine S_go (fun _ _ h => h) ?_
  refine T_seq ?_
  refine T_seq ?_
  refine T_region ?_
  refine S_ 9 rfl rfl rfl _ (y_move rfl rfl) ?_
  refine S_ 10 rfl rfl rfl _ (y_bin rfl rfl rfl (fun _ => b_neq)) ?_
  refine S_go (fun _ _ h => h) ?_
  refine T_cond rfl (fun h10 => ?_) (fun h10 => ?_)
  · try simp only [decide_eq_true_eq, decide_eq_false_iff_not, Bool.or_eq_true, Bool.or_eq_false_iff, Bool.and_eq_true, Bool.and_eq_false_iff, Bool.not_eq_true', Bool.not_eq_false', Bool.not_eq_true, Bool.not_eq_false, Bool.not_true, Bool.not_false, Int.not_lt, Int.not_le, not_or, not_and, Classical.not_not] at h10
    refine T_region ?_
    refine S_nilSlice 2 (e := 67) (size := 6) ?_
    refine S_ 2 rfl rfl rfl _ (y_assign rfl rfl) ?_
    refine S_go (fun _ _ h => h) ?_
    refine T_seq ?_
    refine T_region ?_
    refine S_ 11 rfl rfl rfl _ (y_move rfl rfl) ?_
    refine S_ 12 rfl rfl rfl _ (y_move rfl rfl) ?_
    refine S_ 13 rfl rfl rfl _ (y_call rfl rfl rfl cf34 (fun _ w hM => EqlFr_any _ _ _ _ _ _ l [] w (hl.below hM.below) (SlT.own3 hM rfl (i := 2) rfl) hq (by omega))) ?_
    refine S_ 14 rfl rfl rfl _ (y_move rfl rfl) ?_
    refine Sg_ 15 rfl rfl rfl rfl rfl rfl _ (y_move rfl rfl) ?_
    refine Sg_ 16 rfl rfl rfl rfl rfl rfl _ (y_move rfl rfl) ?_
    refine Sg_ 17 rfl rfl rfl rfl rfl rfl _ (y_bin rfl rfl rfl (fun _ => b_eql)) ?_
    refine S_ 18 rfl rfl rfl _ (y_and rfl rfl rfl) ?_
    refine S_ 8 rfl rfl rfl _ (y_assign rfl rfl) ?_
    refine S_go (fun _ _ h => h) ?_
    refine T_ret (fun a w hF hM => hRb a w (post1 rfl rfl (fun w hM => ?_) a w hF hM))
    exact ⟨by rw [hz h10]; simp [eqLB], hM.below⟩
  · try simp only [decide_eq_true_eq, decide_eq_false_iff_not, Bool.or_eq_true, Bool.or_eq_false_iff, Bool.and_eq_true, Bool.and_eq_false_iff, Bool.not_eq_true', Bool.not_eq_false', Bool.not_eq_true, Bool.not_eq_false, Bool.not_true, Bool.not_false, Int.not_lt, Int.not_le, not_or, not_and, Classical.not_not] at h10
    refine T_skip_go (fun _ _ h => h) ?_
    refine T_seq ?_
    refine T_region ?_
    refine S_ 11 rfl rfl rfl _ (y_move rfl rfl) ?_
    refine S_ 12 rfl rfl rfl _ (y_move rfl rfl) ?_
    refine S_ 13 rfl rfl rfl _ (y_call rfl rfl rfl cf34 (fun _ w hM => EqlFr_any _ _ _ _ _ _ l m w (hl.below hM.below) (hm.below hM.below) hq hp)) ?_
    refine S_ 14 rfl rfl rfl _ (y_move rfl rfl) ?_
    refine Sg_ 15 rfl rfl rfl rfl rfl rfl _ (y_move rfl rfl) ?_
    refine Sg_ 16 rfl rfl rfl rfl rfl rfl _ (y_move rfl rfl) ?_
    refine Sg_ 17 rfl rfl rfl rfl rfl rfl _ (y_bin rfl rfl rfl (fun _ => b_eql)) ?_
    refine S_ 18 rfl rfl rfl _ (y_and rfl rfl rfl) ?_
    refine S_ 8 rfl rfl rfl _ (y_assign rfl rfl) ?_
    refine S_go (fun _ _ h => h) ?_
    refine T_ret (fun a w hF hM => hRb a w (post1 rfl rfl (fun w hM => ?_) a w hF hM))
    exact ⟨by rw [h0 h10, (eqLB_iff Frm.eqC_iff l l).2 rfl]; simp, hM.below⟩
theorem EqlSt_any (A B : Option Addr) (q c p d : Nat) (l m : List (List UInt8)) (w : World) (hl : SlT strEnc 1 w A q l) (hm : SlT strEnc 1 w B p m) (hq : q ≤ 4611686018427387904) (hp : p ≤ 4611686018427387904) :
    Calls Tryd.prog 80 #[.slice A q c, .slice B p d] w fun e w' => e = .returned (.bool (eqLB sEqC l m)) ∧ Below w.heap.size w w' := by
  have hlen := hl.len
  have hmen := hm.len
  refine enter_args (args := [.slice A q c, .slice B p d]) (F := _) Tryd.func80 rfl Tryd.ntmps80 rfl rfl ?_
  intro Rb hRb hRn
  refine T_seq ?_
  refine T_region ?_
  refine S_ 4 rfl rfl rfl _ (y_assign rfl rfl) ?_
  refine S_go (fun _ _ h => h) ?_
  refine T_seq ?_
  refine T_seq ?_
  refine T_region ?_
  refine S_ 6 rfl rfl rfl _ (y_move rfl rfl) ?_
  refine S_ 7 rfl rfl rfl _ (y_len_slice rfl rfl Tryd.underlying22) ?_
  refine S_ 8 rfl rfl rfl _ (y_move rfl rfl) ?_
  refine S_ 9 rfl rfl rfl _ (y_len_slice rfl rfl Tryd.underlying22) ?_
  refine S_ 10 rfl rfl rfl _ (y_bin rfl rfl rfl (fun _ => b_neq)) ?_
  refine S_go (fun _ _ h => h) ?_
  refine T_cond rfl (fun h10 => ?_) (fun h10 => ?_)
  · try simp only [decide_eq_true_eq, decide_eq_false_iff_not, Bool.or_eq_true, Bool.or_eq_false_iff, Bool.and_eq_true, Bool.and_eq_false_iff, Bool.not_eq_true', Bool.not_eq_false', Bool.not_eq_true, Bool.not_eq_false, Bool.not_true, Bool.not_false, Int.not_lt, Int.not_le, not_or, not_and, Classical.not_not] at h10
    refine T_seq ?_
    refine T_region ?_
    refine S_ 4 rfl rfl rfl _ (y_assign rfl rfl) ?_
    refine S_go (fun _ _ h => h) ?_
    refine T_ret (fun a w hF hM => hRb a w (post1 rfl rfl (fun w hM => ?_) a w hF hM))
    exact ⟨by rw [eqLB_len l m (by omega)], hM.below⟩
  · try simp only [decide_eq_true_eq, decide_eq_false_iff_not, Bool.or_eq_true, Bool.or_eq_false_iff, Bool.and_eq_true, Bool.and_eq_false_iff, Bool.not_eq_true', Bool.not_eq_false', Bool.not_eq_true, Bool.not_eq_false, Bool.not_true, Bool.not_false, Int.not_lt, Int.not_le, not_or, not_and, Classical.not_not] at h10
    refine T_skip_go (fun _ _ h => h) ?_
    refine T_seq ?_
    refine T_seq ?_
    refine T_region ?_
    refine S_ 11 rfl rfl rfl _ (y_move rfl rfl) ?_
    refine S_ 12 rfl rfl rfl _ (y_len_slice rfl rfl Tryd.underlying22) ?_
    refine S_ 13 rfl rfl rfl _ (y_move rfl rfl) ?_
    refine S_go (fun _ _ h => h) ?_
    refine T_block ?_
    refine T_loopK1 (kf := [(4, 5), (13, 25)]) (kl := [(4, 5), (13, 25)]) (fun (i : Nat) => [(13, true, .int .i64 (i : Int))]) (fun (i : Nat) => []) (fun (i : Nat) => i ≤ q ∧ eqLB sEqC l m = eqLB sEqC (l.drop i) (m.drop i)) (fun (i : Nat) => q - i) 0 (by repeat (first | exact kf_nil | (apply kf_in; focus rfl) | (apply kf_out; focus rfl))) (by repeat (first | exact kl_nil | exact kl_rest (by assumption) rfl | (apply kl_in; focus rfl) | (apply kl_out; focus rfl))) ?_ ?_ ?_ ?_
    · exact ⟨by omega, rfl⟩
    · exact ⟨rfl, trivial⟩
    · exact trivial
    rintro i ⟨hp1, hp2⟩
    refine T_seq ?_
    refine T_region ?_
    refine S_ 14 rfl rfl rfl _ (y_bin rfl rfl rfl (fun _ => b_lss)) ?_
    refine S_go (fun _ _ h => h) ?_
    refine T_seq ?_
    refine T_cond rfl (fun h14 => ?_) (fun h14 => ?_)
    · try simp only [decide_eq_true_eq, decide_eq_false_iff_not, Bool.or_eq_true, Bool.or_eq_false_iff, Bool.and_eq_true, Bool.and_eq_false_iff, Bool.not_eq_true', Bool.not_eq_false', Bool.not_eq_true, Bool.not_eq_false, Bool.not_true, Bool.not_false, Int.not_lt, Int.not_le, not_or, not_and, Classical.not_not] at h14
      obtain ⟨a, hx1, hx2⟩ := hl.at (i := i) (by omega)
      obtain ⟨b, hy1, hy2⟩ := hm.at (i := i) (by omega)
      refine T_skip_go (fun _ _ h => h) ?_
      refine T_seq ?_
      refine T_block ?_
      refine T_seq ?_
      refine T_region ?_
      refine S_ 15 rfl rfl rfl _ (y_move rfl rfl) ?_
      refine S_ 5 rfl rfl rfl _ (y_assign rfl rfl) ?_
      refine S_go (fun _ _ h => h) ?_
      refine T_seq ?_
      refine T_draws (by kernel_rfl) (by kernel_rfl) ?_
      refine D_ 16 rfl rfl rfl _ (y_move rfl rfl) ?_
      refine D_ 17 rfl rfl rfl _ (y_move rfl rfl) ?_
      refine D_ 18 rfl rfl rfl _ (y_indexAddr rfl rfl rfl Tryd.underlying22 sz9 (fun hg => hl.isSome (by omega)) (fun _ => by omega)) ?_
      refine D_ 19 rfl rfl rfl _ (y_loadT1 (val := (fun l : List UInt8 => str l)) rfl rfl hl (fun _ => hx1) Tryd.underlying9 rfl) ?_
      refine D_ 20 rfl rfl rfl _ (y_move rfl rfl) ?_
      refine D_ 21 rfl rfl rfl _ (y_move rfl rfl) ?_
      refine D_ 22 rfl rfl rfl _ (y_indexAddr rfl rfl rfl Tryd.underlying22 sz9 (fun hg => hm.isSome (by omega)) (fun _ => by omega)) ?_
      refine D_ 23 rfl rfl rfl _ (y_loadT1 (val := (fun l : List UInt8 => str l)) rfl rfl hm (fun _ => hy1) Tryd.underlying9 rfl) ?_
      refine D_ 24 rfl rfl rfl _ (y_as (v' := .bool (!(sEqC a b))) (by rw [show (decide (a = b)) = sEqC a b from rfl]) (y_bin rfl rfl rfl (fun _ => b_neqs))) ?_
      refine D_go (fun _ _ h => h) ?_
      refine T_cond rfl (fun h24 => ?_) (fun h24 => ?_)
      · skip
        have h24e : sEqC a b = false := by simpa using h24
        refine T_seq ?_
        refine T_region ?_
        refine S_ 4 rfl rfl rfl _ (y_assign rfl rfl) ?_
        refine S_go (fun _ _ h => h) ?_
        refine T_ret (fun a w hF hM => hRb a w (post1 rfl rfl (fun w hM => ?_) a w hF hM))
        exact ⟨by rw [hp2, hx2, hy2, eqLB, h24e, Bool.false_and], hM.below⟩
      · skip
        have h24e : sEqC a b = true := by simpa using h24
        refine T_skip_go (fun _ _ h => h) ?_
        refine T_region ?_
        refine S_ 25 rfl rfl rfl _ (y_bin rfl rfl rfl (fun hg => b_add (by omega))) ?_
        refine S_ 13 rfl rfl rfl _ (y_move rfl rfl) ?_
        refine S_nil (nextK1 (kf := [(4, 5), (13, 25)]) (kl := [(4, 5), (13, 25)]) (i + 1) (by repeat (first | exact kf_nil | (apply kf_in; focus rfl) | (apply kf_out; focus rfl))) (by repeat (first | exact kl_nil | exact kl_rest (by assumption) rfl | (apply kl_in; focus rfl) | (apply kl_out; focus rfl))) ?_ ?_ ?_ ?_)
        · omega
        · exact ⟨by omega, by rw [hp2, hx2, hy2, eqLB, h24e, Bool.true_and]⟩
        · exact ⟨rfl, trivial⟩
        · exact trivial
    · try simp only [decide_eq_true_eq, decide_eq_false_iff_not, Bool.or_eq_true, Bool.or_eq_false_iff, Bool.and_eq_true, Bool.and_eq_false_iff, Bool.not_eq_true', Bool.not_eq_false', Bool.not_eq_true, Bool.not_eq_false, Bool.not_true, Bool.not_false, Int.not_lt, Int.not_le, not_or, not_and, Classical.not_not] at h14
      refine T_exit_go (fun _ _ h => h) ?_
      refine T_seq ?_
      refine T_region ?_
      refine S_ 4 rfl rfl rfl _ (y_assign rfl rfl) ?_
      refine S_go (fun _ _ h => h) ?_
      refine T_ret (fun a w hF hM => hRb a w (post1 rfl rfl (fun w hM => ?_) a w hF hM))
      exact ⟨by rw [hp2, hl.end (by omega), hm.end (by omega)]; rfl, hM.below⟩
theorem listedSt_any (A B : Option Addr) (q c p d : Nat) (l m : List (List UInt8)) (e x : Int) (w : World) (hl : SlT strEnc 1 w A q l) (hm : SlT strEnc 1 w B p m) (hq : q ≤ 4611686018427387904) (hp : p ≤ 4611686018427387904) (he : e = x) (hz : x ≠ 0 → l = []) (h0 : x = 0 → m = l) :
    Calls Tryd.prog 33 #[.slice A q c, .int .i64 e, .slice B p d, .int .i64 x] w fun e w' => e = .returned (.bool true) ∧ Below w.heap.size w w' := by
  subst he
  refine enter_args (args := [.slice A q c, .int .i64 e, .slice B p d, .int .i64 e]) (F := _) Tryd.func33 rfl Tryd.ntmps33 rfl rfl ?_
  intro Rb hRb hRn
  refine T_seq ?_
  refine T_region ?_
  refine S_ 8 rfl rfl rfl _ (y_assign rfl rfl) ?_
  refine S_go (fun _ _ h => h) ?_
  refine T_seq ?_
  refine T_seq ?_
  refine T_region ?_
  refine S_ 9 rfl rfl rfl _ (y_move rfl rfl) ?_
  refine S_ 10 rfl rfl rfl _ (y_bin rfl rfl rfl (fun _ => b_neq)) ?_
  refine S_go (fun _ _ h => h) ?_
  refine T_cond rfl (fun h10 => ?_) (fun h10 => ?_)
  · try simp only [decide_eq_true_eq, decide_eq_false_iff_not, Bool.or_eq_true, Bool.or_eq_false_iff, Bool.and_eq_true, Bool.and_eq_false_iff, Bool.not_eq_true', Bool.not_eq_false', Bool.not_eq_true, Bool.not_eq_false, Bool.not_true, Bool.not_false, Int.not_lt, Int.not_le, not_or, not_and, Classical.not_not] at h10
    refine T_region ?_
    refine S_nilSlice 2 (e := 9) (size := 1) ?_
    refine S_ 2 rfl rfl rfl _ (y_assign rfl rfl) ?_
    refine S_go (fun _ _ h => h) ?_
    refine T_seq ?_
    refine T_region ?_
    refine S_ 11 rfl rfl rfl _ (y_move rfl rfl) ?_
    refine S_ 12 rfl rfl rfl _ (y_move rfl rfl) ?_
    refine S_ 13 rfl rfl rfl _ (y_call rfl rfl rfl cf80 (fun _ w hM => EqlSt_any _ _ _ _ _ _ l [] w (hl.below hM.below) (SlT.own3 hM rfl (i := 2) rfl) hq (by omega))) ?_
    refine S_ 14 rfl rfl rfl _ (y_move rfl rfl) ?_
    refine Sg_ 15 rfl rfl rfl rfl rfl rfl _ (y_move rfl rfl) ?_
    refine Sg_ 16 rfl rfl rfl rfl rfl rfl _ (y_move rfl rfl) ?_
    refine Sg_ 17 rfl rfl rfl rfl rfl rfl _ (y_bin rfl rfl rfl (fun _ => b_eql)) ?_
    refine S_ 18 rfl rfl rfl _ (y_and rfl rfl rfl) ?_
    refine S_ 8 rfl rfl rfl _ (y_assign rfl rfl) ?_
    refine S_go (fun _ _ h => h) ?_
    refine T_ret (fun a w hF hM => hRb a w (post1 rfl rfl (fun w hM => ?_) a w hF hM))
    exact ⟨by rw [hz h10]; simp [eqLB], hM.below⟩
  · try simp only [decide_eq_true_eq, decide_eq_false_iff_not, Bool.or_eq_true, Bool.or_eq_false_iff, Bool.and_eq_true, Bool.and_eq_false_iff, Bool.not_eq_true', Bool.not_eq_false', Bool.not_eq_true, Bool.not_eq_false, Bool.not_true, Bool.not_false, Int.not_lt, Int.not_le, not_or, not_and, Classical.not_not] at h10
    refine T_skip_go (fun _ _ h => h) ?_
    refine T_seq ?_
    refine T_region ?_
    refine S_ 11 rfl rfl rfl _ (y_move rfl rfl) ?_
    refine S_ 12 rfl rfl rfl _ (y_move rfl rfl) ?_
    refine S_ 13 rfl rfl rfl _ (y_call rfl rfl rfl cf80 (fun _ w hM => EqlSt_any _ _ _ _ _ _ l m w (hl.below hM.below) (hm.below hM.below) hq hp)) ?_
    refine S_ 14 rfl rfl rfl _ (y_move rfl rfl) ?_
    refine Sg_ 15 rfl rfl rfl rfl rfl rfl _ (y_move rfl rfl) ?_
    refine Sg_ 16 rfl rfl rfl rfl rfl rfl _ (y_move rfl rfl) ?_
    refine Sg_ 17 rfl rfl rfl rfl rfl rfl _ (y_bin rfl rfl rfl (fun _ => b_eql)) ?_
    refine S_ 18 rfl rfl rfl _ (y_and rfl rfl rfl) ?_
    refine S_ 8 rfl rfl rfl _ (y_assign rfl rfl) ?_
    refine S_go (fun _ _ h => h) ?_
    refine T_ret (fun a w hF hM => hRb a w (post1 rfl rfl (fun w hM => ?_) a w hF hM))
    exact ⟨by rw [h0 h10, (eqLB_iff sEqC_iff l l).2 rfl]; simp, hM.below⟩
theorem miss_t {ms : List SMod} {ts : List Tab} {f : Frm} {r : List Frm} {out : List (List UInt8)} (h : 0 ≤ findI (SMod.has f.ad) ms 0 ∧ 0 ≤ f.ad ∧ findI (Tab.hasId (idOf f.ad ms)) ts 0 < 0 ∧ ¬ idOf f.ad ms ∈ out) : missOf ms ts (f :: r) out = missOf ms ts r (out ++ [idOf f.ad ms]) := by
  obtain ⟨h1, h2, h3, h4⟩ := h
  have h5 := findI_any (Tab.hasId (idOf f.ad ms)) ts 0 (by omega)
  rw [missOf, if_neg (by omega), if_pos (by rw [← h5, decide_eq_false h4, decide_eq_false (by omega)]; rfl)]
theorem miss_f {ms : List SMod} {ts : List Tab} {f : Frm} {r : List Frm} {out : List (List UInt8)} (ha : -1 ≤ f.ad) (h : ¬ (0 ≤ findI (SMod.has f.ad) ms 0 ∧ 0 ≤ f.ad ∧ findI (Tab.hasId (idOf f.ad ms)) ts 0 < 0 ∧ ¬ idOf f.ad ms ∈ out)) : missOf ms ts (f :: r) out = missOf ms ts r out := by
  have h5 := findI_any (Tab.hasId (idOf f.ad ms)) ts 0 (by omega)
  rw [missOf]
  split
  · rfl
  rename_i h1
  rw [← h5]
  by_cases h4 : idOf f.ad ms ∈ out
  · rw [decide_eq_true h4]; rfl
  · rw [if_neg]
    intro hh
    refine h ⟨by omega, by omega, ?_, h4⟩
    rw [decide_eq_false h4] at hh
    have : decide (0 ≤ findI (Tab.hasId (idOf f.ad ms)) ts 0) = false := by simpa using hh
    have := of_decide_eq_false this
    omega
theorem missOf_le {ms : List SMod} {ts : List Tab} : ∀ (l : List Frm) (out : List (List UInt8)), (missOf ms ts l out).length ≤ out.length + l.length
  | [], out => Nat.le_refl _
  | f :: r, out => by
    unfold missOf
    split
    · refine Nat.le_trans (missOf_le r _) ?_
      rw [List.length_cons]; omega
    split
    · refine Nat.le_trans (missOf_le r _) ?_
      simp only [List.length_append, List.length_cons, List.length_nil]; omega
    · refine Nat.le_trans (missOf_le r _) ?_
      rw [List.length_cons]; omega
set_option maxHeartbeats 800000 in
theorem MissingOf_any (fs : Sl Frm) (ms : Sl SMod) (ts : Sl Tab) (w : World) (hfs : FrmsOk w fs) (hms : ModsOk w ms) (hts : TabsOk w ts) (ha : allNo fs ms ts = 0) :
    Calls Tryd.prog 31 #[.slice fs.A fs.q fs.c, .slice ms.A ms.q ms.c, .slice ts.A ts.q ts.c] w fun e w' => ∃ A c, e = .returned (.slice A (missOut fs ms ts).length c) ∧
      w'.ownsRow w.heap.size 9 1 (.slice A (missOut fs ms ts).length c) (missOut fs ms ts).length ((missOut fs ms ts).flatMap strEnc) ∧ Below w.heap.size w w' := by
  have hft := hfs.ok.t
  have hfq := hfs.q
  have hmt := hms.ok.t
  have hml := hmt.len
  have hmq := hms.q
  have htt := hts.ok.t
  have htq := hts.q
  obtain ⟨hq2, hf0, hm0, ht0⟩ := allNo_zero ha
  have hfr := frames_right hf0
  refine enter_args (args := [.slice fs.A fs.q fs.c, .slice ms.A ms.q ms.c, .slice ts.A ts.q ts.c]) (F := _) Tryd.func31 rfl Tryd.ntmps31 rfl rfl ?_
  intro Rb hRb hRn
  refine T_seq ?_
  refine T_region ?_
  refine S_nilSlice 6 (e := 9) (size := 1) ?_
  refine S_ 6 rfl rfl rfl _ (y_assign rfl rfl) ?_
  refine S_go (fun _ _ h => h) ?_
  refine T_seq ?_
  refine T_region ?_
  refine S_nilSlice 7 (e := 9) (size := 1) ?_
  refine S_ 7 rfl rfl rfl _ (y_assign rfl rfl) ?_
  refine S_go (fun _ _ h => h) ?_
  refine T_seq ?_
  refine T_seq ?_
  refine T_region ?_
  refine S_ 12 rfl rfl rfl _ (y_move rfl rfl) ?_
  refine S_ 13 rfl rfl rfl _ (y_len_slice rfl rfl Tryd.underlying57) ?_
  refine S_ 14 rfl rfl rfl _ (y_move rfl rfl) ?_
  refine S_go (fun _ _ h => h) ?_
  refine T_block ?_
  refine T_loopK5 (kf := [(7, 7), (9, 11), (14, 59)]) (kl := [(7, 7), (9, 11), (14, 59)]) (fun (i : Nat) (out : List (List UInt8)) (q : Nat) (A : Option Addr) (c : Nat) => [(14, true, .int .i64 (i : Int)), (7, true, .slice A q c)]) (fun (i : Nat) (out : List (List UInt8)) (q : Nat) (A : Option Addr) (c : Nat) => [(7, .own 9 1 (.slice A q c) q (out.flatMap strEnc))]) (fun (i : Nat) (out : List (List UInt8)) (q : Nat) (A : Option Addr) (c : Nat) => i ≤ fs.q ∧ q ≤ i ∧ out.length = q ∧ missOf ms.l ts.l fs.l [] = missOf ms.l ts.l (fs.l.drop i) out) (fun (i : Nat) (out : List (List UInt8)) (q : Nat) (A : Option Addr) (c : Nat) => fs.q - i) 0 [] 0 none 0 (by repeat (first | exact kf_nil | (apply kf_in; focus rfl) | (apply kf_out; focus rfl))) (by repeat (first | exact kl_nil | exact kl_rest (by assumption) rfl | (apply kl_in; focus rfl) | (apply kl_out; focus rfl))) ?_ ?_ ?_ ?_
  · exact ⟨by omega, by omega, rfl, rfl⟩
  · exact ⟨rfl, rfl, trivial⟩
  · exact ⟨rfl, trivial⟩
  rintro i out q A c ⟨hp1, hp2, hp3, hp4⟩
  refine T_seq ?_
  refine T_region ?_
  refine S_ 15 rfl rfl rfl _ (y_bin rfl rfl rfl (fun _ => b_lss)) ?_
  refine S_go (fun _ _ h => h) ?_
  refine T_seq ?_
  refine T_cond rfl (fun h15 => ?_) (fun h15 => ?_)
  · try simp only [decide_eq_true_eq, decide_eq_false_iff_not, Bool.or_eq_true, Bool.or_eq_false_iff, Bool.and_eq_true, Bool.and_eq_false_iff, Bool.not_eq_true', Bool.not_eq_false', Bool.not_eq_true, Bool.not_eq_false, Bool.not_true, Bool.not_false, Int.not_lt, Int.not_le, not_or, not_and, Classical.not_not] at h15
    obtain ⟨f, hx1, hx2⟩ := hft.at (i := i) (by omega)
    have hfa := hfr f (mem_at hx1)
    have hix : (if findI (SMod.has f.ad) ms.l 0 < 0 then 0 else findI (SMod.has f.ad) ms.l 0) = (((findI (SMod.has f.ad) ms.l 0).toNat : Nat) : Int) := by split <;> omega
    have hmm : 0 ≤ findI (SMod.has f.ad) ms.l 0 → ms.l[(findI (SMod.has f.ad) ms.l 0).toNat]? = some (ms.l.getD (findI (SMod.has f.ad) ms.l 0).toNat m00) := fun h => by
      obtain ⟨n, m, hn, hm, _⟩ := findI_at ms.l 0 (by omega) h
      rw [hn, show (0 + (n : Int)).toNat = n by omega, List.getD, hm]; rfl
    have hmlt : 0 ≤ findI (SMod.has f.ad) ms.l 0 → (findI (SMod.has f.ad) ms.l 0).toNat < ms.q := fun h => by rw [← hml]; exact (List.getElem?_eq_some_iff.1 (hmm h)).1
    refine T_skip_go (fun _ _ h => h) ?_
    refine T_seq ?_
    refine T_block ?_
    refine T_seq ?_
    refine T_region ?_
    refine S_ 16 rfl rfl rfl _ (y_indexAddr rfl rfl rfl Tryd.underlying57 sz67 (fun hg => hft.isSome (by omega)) (fun _ => by omega)) ?_
    refine S_ 17 rfl rfl rfl _ (y_loadT rfl rfl hft (fun _ => rfl) (fun _ => hx1) Tryd.underlying67 rfl sz67) ?_
    refine S_alloc 9 9 rfl rfl rfl rfl z67 ?_
    intro b9
    refine S_store 9 rfl rfl rfl rfl rfl rfl sz67 rfl rfl ?_
    refine S_go (fun _ _ h => h) ?_
    refine T_seq ?_
    refine T_region ?_
    refine S_ 19 rfl rfl rfl _ (y_move rfl rfl) ?_
    refine S_ 20 rfl rfl rfl _ (y_fieldAddr rfl rfl fa67_4) ?_
    refine S_ 21 rfl rfl rfl _ (y_load 9 rfl rfl rfl rfl Tryd.underlying3 rfl) ?_
    refine S_ 22 rfl rfl rfl _ (y_call rfl rfl rfl cf12 (fun _ w hM => ModuleOf_any ms f.ad w (hms.ok.below hM.below) hmq)) ?_
    refine S_ 18 rfl rfl rfl _ (y_move rfl rfl) ?_
    refine S_ 23 rfl rfl rfl _ (y_extract rfl rfl rfl) ?_
    refine S_ 24 rfl rfl rfl _ (y_extract rfl rfl rfl) ?_
    refine S_ 10 rfl rfl rfl _ (y_assign rfl rfl) ?_
    refine S_ 11 rfl rfl rfl _ (y_assign rfl rfl) ?_
    refine S_go (fun _ _ h => h) ?_
    refine T_seq ?_
    refine T_region ?_
    refine S_ 25 rfl rfl rfl _ (y_move rfl rfl) ?_
    refine S_ 26 rfl rfl rfl _ (y_move rfl rfl) ?_
    refine Sg_ 27 rfl rfl rfl rfl rfl rfl _ (y_fieldAddr rfl rfl fa67_4) ?_
    refine Sg_ 28 rfl rfl rfl rfl rfl rfl _ (y_load 9 rfl rfl rfl rfl Tryd.underlying3 rfl) ?_
    refine Sg_ 29 rfl rfl rfl rfl rfl rfl _ (y_bin rfl rfl rfl (fun _ => b_geq)) ?_
    refine S_ 30 rfl rfl rfl _ (y_and rfl rfl rfl) ?_
    refine S_ 31 rfl rfl rfl _ (y_move rfl rfl) ?_
    refine Sg_ 32 rfl rfl rfl rfl rfl rfl _ (y_move rfl rfl) ?_
    refine Sg_ 33 rfl rfl rfl rfl rfl rfl _ (y_move rfl rfl) ?_
    refine Sg_ 34 rfl rfl rfl rfl rfl rfl _ (y_move rfl rfl) ?_
    refine Sg_ 35 rfl rfl rfl rfl rfl rfl _ (y_indexAddrI (j := (findI (SMod.has f.ad) ms.l 0).toNat) rfl rfl rfl (fun _ => hix) Tryd.underlying28 sz86 (fun hg => hmt.isSome (by have := hmlt (by simp at hg; omega); omega)) (fun hg => hmlt (by simp at hg; omega))) ?_
    refine Sg_ 36 rfl rfl rfl rfl rfl rfl _ (y_fieldEl rfl rfl hmt.rd (fun hg => hmlt (by simp at hg; omega)) fa86_1) ?_
    refine Sg_ 37 rfl rfl rfl rfl rfl rfl _ (y_load_fT rfl rfl hmt (fun _ => rfl) (fun hg => hmm (by simp at hg; omega)) rfl Tryd.underlying9 rfl) ?_
    refine Sg_ 38 rfl rfl rfl rfl rfl rfl _ (y_call rfl rfl rfl cf75 (fun _ w hM => tableOf_any _ _ _ _ (idOf f.ad ms.l) w (htt.below hM.below) htq)) ?_
    refine Sg_ 39 rfl rfl rfl rfl rfl rfl _ (y_bin rfl rfl rfl (fun _ => b_lss)) ?_
    refine S_ 40 rfl rfl rfl _ (y_and rfl rfl rfl) ?_
    refine S_ 41 rfl rfl rfl _ (y_move rfl rfl) ?_
    refine Sg_ 42 rfl rfl rfl rfl rfl rfl _ (y_move rfl rfl) ?_
    refine Sg_ 43 rfl rfl rfl rfl rfl rfl _ (y_move rfl rfl) ?_
    refine Sg_ 44 rfl rfl rfl rfl rfl rfl _ (y_move rfl rfl) ?_
    refine Sg_ 45 rfl rfl rfl rfl rfl rfl _ (y_indexAddrI (j := (findI (SMod.has f.ad) ms.l 0).toNat) rfl rfl rfl (fun _ => hix) Tryd.underlying28 sz86 (fun hg => hmt.isSome (by have := hmlt (by simp at hg; omega); omega)) (fun hg => hmlt (by simp at hg; omega))) ?_
    refine Sg_ 46 rfl rfl rfl rfl rfl rfl _ (y_fieldEl rfl rfl hmt.rd (fun hg => hmlt (by simp at hg; omega)) fa86_1) ?_
    refine Sg_ 47 rfl rfl rfl rfl rfl rfl _ (y_load_fT rfl rfl hmt (fun _ => rfl) (fun hg => hmm (by simp at hg; omega)) rfl Tryd.underlying9 rfl) ?_
    refine Sg_ 48 rfl rfl rfl rfl rfl rfl _ (y_call rfl rfl rfl cf37 (fun hg w hM => ContainsS_any _ _ _ _ (idOf f.ad ms.l) w (own_ok2 hM hp3 (i := 7) rfl).t (by omega))) ?_
    refine Sg_ 49 rfl rfl rfl rfl rfl rfl _ (y_not rfl rfl) ?_
    refine S_ 50 rfl rfl rfl _ (y_and rfl rfl rfl) ?_
    refine S_go (fun _ _ h => h) ?_
    refine T_cond rfl (fun h50 => ?_) (fun h50 => ?_)
    · skip
      have hc : 0 ≤ findI (SMod.has f.ad) ms.l 0 ∧ 0 ≤ f.ad ∧ findI (Tab.hasId (idOf f.ad ms.l)) ts.l 0 < 0 ∧ ¬ idOf f.ad ms.l ∈ out := by simpa [and_assoc] using h50
      refine T_region ?_
      refine S_ 51 rfl rfl rfl _ (y_move rfl rfl) ?_
      refine S_ 52 rfl rfl rfl _ (y_move rfl rfl) ?_
      refine S_ 53 rfl rfl rfl _ (y_move rfl rfl) ?_
      refine S_ 54 rfl rfl rfl _ (y_indexAddrI (j := (findI (SMod.has f.ad) ms.l 0).toNat) rfl rfl rfl (fun _ => hix) Tryd.underlying28 sz86 (fun _ => hmt.isSome (by have := hmlt hc.1; omega)) (fun _ => hmlt hc.1)) ?_
      refine S_ 55 rfl rfl rfl _ (y_fieldEl rfl rfl hmt.rd (fun _ => hmlt hc.1) fa86_1) ?_
      refine S_ 56 rfl rfl rfl _ (y_load_fT rfl rfl hmt (fun _ => rfl) (fun _ => hmm hc.1) rfl Tryd.underlying9 rfl) ?_
      refine S_buildSlice 57 57 rfl rfl rfl rfl rfl Tryd.underlying22 inf9 rfl (by decide) (by decide) rfl rfl (by decide) rfl (_) rfl ?_
      intro b57
      obtain ⟨i58, hi58, hz58, hs58, hy58⟩ := info_parts inf9
      refine S_append 58 7 57 rfl rfl rfl rfl rfl rfl rfl rfl Tryd.underlying22 hi58 hz58 hs58 hy58 rfl (by decide) (by decide) rfl ?_ ?_ (q + 1) ((out ++ [idOf f.ad ms.l]).flatMap strEnc) ?_ ?_ ?_
      · (simp only [maxLen]; omega)
      · omega
      · rfl
      · simp [List.flatMap_append, strEnc]; rfl
      intro A58 c58
      refine S_ 7 rfl rfl rfl _ (y_assign rfl rfl) ?_
      refine S_go (fun _ _ h => h) ?_
      refine T_region ?_
      refine S_ 59 rfl rfl rfl _ (y_bin rfl rfl rfl (fun hg => b_add (by omega))) ?_
      refine S_ 14 rfl rfl rfl _ (y_move rfl rfl) ?_
      refine S_nil (nextK5 (kf := [(7, 7), (9, 11), (14, 59)]) (kl := [(7, 7), (9, 11), (14, 59)]) (i + 1) (out ++ [idOf f.ad ms.l]) (q + 1) A58 c58 (by repeat (first | exact kf_nil | (apply kf_in; focus rfl) | (apply kf_out; focus rfl))) (by repeat (first | exact kl_nil | exact kl_rest (by assumption) rfl | (apply kl_in; focus rfl) | (apply kl_out; focus rfl))) ?_ ?_ ?_ ?_)
      · omega
      · exact ⟨by omega, by omega, by simp [hp3], by rw [hp4, hx2]; exact miss_t hc⟩
      · exact ⟨rfl, rfl, trivial⟩
      · exact ⟨rfl, trivial⟩
    · skip
      have hc : ¬ (0 ≤ findI (SMod.has f.ad) ms.l 0 ∧ 0 ≤ f.ad ∧ findI (Tab.hasId (idOf f.ad ms.l)) ts.l 0 < 0 ∧ ¬ idOf f.ad ms.l ∈ out) := fun hh => by rw [decide_eq_true hh.1, decide_eq_true hh.2.1, decide_eq_true hh.2.2.1, decide_eq_false hh.2.2.2] at h50; cases h50
      refine T_skip_go (fun _ _ h => h) ?_
      refine T_region ?_
      refine S_ 59 rfl rfl rfl _ (y_bin rfl rfl rfl (fun hg => b_add (by omega))) ?_
      refine S_ 14 rfl rfl rfl _ (y_move rfl rfl) ?_
      refine S_nil (nextK5 (kf := [(7, 7), (9, 11), (14, 59)]) (kl := [(7, 7), (9, 11), (14, 59)]) (i + 1) out q A c (by repeat (first | exact kf_nil | (apply kf_in; focus rfl) | (apply kf_out; focus rfl))) (by repeat (first | exact kl_nil | exact kl_rest (by assumption) rfl | (apply kl_in; focus rfl) | (apply kl_out; focus rfl))) ?_ ?_ ?_ ?_)
      · omega
      · exact ⟨by omega, by omega, hp3, by rw [hp4, hx2]; exact miss_f hfa hc⟩
      · exact ⟨rfl, rfl, trivial⟩
      · exact ⟨rfl, trivial⟩
  · try simp only [decide_eq_true_eq, decide_eq_false_iff_not, Bool.or_eq_true, Bool.or_eq_false_iff, Bool.and_eq_true, Bool.and_eq_false_iff, Bool.not_eq_true', Bool.not_eq_false', Bool.not_eq_true, Bool.not_eq_false, Bool.not_true, Bool.not_false, Int.not_lt, Int.not_le, not_or, not_and, Classical.not_not] at h15
    refine T_exit_go (fun _ _ h => h) ?_
    refine T_seq ?_
    refine T_region ?_
    refine S_ 60 rfl rfl rfl _ (y_move rfl rfl) ?_
    refine S_ 6 rfl rfl rfl _ (y_assign rfl rfl) ?_
    refine S_go (fun _ _ h => h) ?_
    refine T_ret (fun a w hF hM => hRb a w (post1 rfl rfl (fun w hM => ?_) a w hF hM))
    have e : missOut fs ms ts = out := by rw [missOut, if_pos ha, hp4, hft.end (by omega)]; rfl
    rw [e, hp3]
    exact ⟨A, c, rfl, hM.sat 7 _ rfl, hM.below⟩
set_option maxHeartbeats 800000 in
theorem SymbolResolves_any (fs : Sl Frm) (ms : Sl SMod) (ts : Sl Tab) (w : World) (hfs : FrmsOk w fs) (hms : ModsOk w ms) (hts : TabsOk w ts) :
    Calls Tryd.prog 6 #[.slice fs.A fs.q fs.c, .slice ms.A ms.q ms.c, .slice ts.A ts.q ts.c] w fun e w' => e = .returned (.bool true) ∧ Below w.heap.size w w' := by
  have hlr : (resOut fs ms ts).length ≤ 200 := by
    unfold resOut
    split
    · rename_i h
      have := (le_of_ite (fst_zero h).2).1
      omega
    · simp
  have hlm : (missOut fs ms ts).length ≤ 200 := by
    unfold missOut
    split
    · rename_i h
      have h1 := missOf_le (ms := ms.l) (ts := ts.l) fs.l []
      have h2 := (allNo_zero h).1
      have h3 := hfs.ok.t.len
      simp at h1
      omega
    · simp
  refine enter_args (args := [.slice fs.A fs.q fs.c, .slice ms.A ms.q ms.c, .slice ts.A ts.q ts.c]) (F := _) Tryd.func6 rfl Tryd.ntmps6 rfl rfl ?_
  intro Rb hRb hRn
  refine T_seq ?_
  refine T_region ?_
  refine S_ 6 rfl rfl rfl _ (y_assign rfl rfl) ?_
  refine S_go (fun _ _ h => h) ?_
  refine T_seq ?_
  refine T_region ?_
  refine S_ 15 rfl rfl rfl _ (y_move rfl rfl) ?_
  refine S_ 16 rfl rfl rfl _ (y_move rfl rfl) ?_
  refine S_ 17 rfl rfl rfl _ (y_move rfl rfl) ?_
  refine S_ 18 rfl rfl rfl _ (y_call rfl rfl rfl cf27 (fun _ w hM => LookupFault_any fs ms ts w (hfs.below hM.below) (hms.below hM.below) (hts.below hM.below))) ?_
  refine S_ 7 rfl rfl rfl _ (y_assign rfl rfl) ?_
  refine S_go (fun _ _ h => h) ?_
  refine T_seq ?_
  refine T_region ?_
  refine S_ 20 rfl rfl rfl _ (y_move rfl rfl) ?_
  refine S_ 21 rfl rfl rfl _ (y_move rfl rfl) ?_
  refine S_ 22 rfl rfl rfl _ (y_move rfl rfl) ?_
  refine S_callOwn 23 23 rfl rfl rfl rfl rfl rfl rfl cf28 (fun A c => .tuple #[.slice A (resOut fs ms ts).length c, .int .i64 (resNo fs ms ts)]) 67 6 ((resOut fs ms ts).length) ((resOut fs ms ts).flatMap Frm.enc) (fun w hM => Resolve_any fs ms ts w (hfs.below hM.below) (hms.below hM.below) (hts.below hM.below)) ?_
  intro A23 c23
  refine S_ 19 rfl rfl rfl _ (y_move rfl rfl) ?_
  refine S_ 24 rfl rfl rfl _ (y_extract rfl rfl rfl) ?_
  refine S_ 25 rfl rfl rfl _ (y_extract rfl rfl rfl) ?_
  refine S_ 8 rfl rfl rfl _ (y_assign rfl rfl) ?_
  refine S_ 9 rfl rfl rfl _ (y_assign rfl rfl) ?_
  refine S_go (fun _ _ h => h) ?_
  refine T_seq ?_
  refine T_region ?_
  refine S_ 27 rfl rfl rfl _ (y_move rfl rfl) ?_
  refine S_ 28 rfl rfl rfl _ (y_move rfl rfl) ?_
  refine S_ 29 rfl rfl rfl _ (y_move rfl rfl) ?_
  refine S_callOwn 30 30 rfl rfl rfl rfl rfl rfl rfl cf29 (fun A c => .tuple #[.slice A (missOut fs ms ts).length c, .int .i64 (allNo fs ms ts)]) 9 1 ((missOut fs ms ts).length) ((missOut fs ms ts).flatMap strEnc) (fun w hM => Missing_any fs ms ts w (hfs.below hM.below) (hms.below hM.below) (hts.below hM.below)) ?_
  intro A30 c30
  refine S_ 26 rfl rfl rfl _ (y_move rfl rfl) ?_
  refine S_ 31 rfl rfl rfl _ (y_extract rfl rfl rfl) ?_
  refine S_ 32 rfl rfl rfl _ (y_extract rfl rfl rfl) ?_
  refine S_ 10 rfl rfl rfl _ (y_assign rfl rfl) ?_
  refine S_ 11 rfl rfl rfl _ (y_assign rfl rfl) ?_
  refine S_go (fun _ _ h => h) ?_
  refine T_seq ?_
  refine T_region ?_
  refine S_ 33 rfl rfl rfl _ (y_move rfl rfl) ?_
  refine S_ 12 rfl rfl rfl _ (y_assign rfl rfl) ?_
  refine S_go (fun _ _ h => h) ?_
  refine T_seq ?_
  refine T_region ?_
  refine S_nilSlice 13 (e := 67) (size := 6) ?_
  refine S_ 13 rfl rfl rfl _ (y_assign rfl rfl) ?_
  refine S_go (fun _ _ h => h) ?_
  refine T_seq ?_
  refine T_region ?_
  refine S_nilSlice 14 (e := 9) (size := 1) ?_
  refine S_ 14 rfl rfl rfl _ (y_assign rfl rfl) ?_
  refine S_go (fun _ _ h => h) ?_
  refine T_seq ?_
  refine T_seq ?_
  refine T_region ?_
  refine S_ 34 rfl rfl rfl _ (y_move rfl rfl) ?_
  refine S_ 35 rfl rfl rfl _ (y_bin rfl rfl rfl (fun _ => b_eql)) ?_
  refine S_go (fun _ _ h => h) ?_
  refine T_cond rfl (fun h35 => ?_) (fun h35 => ?_)
  · try simp only [decide_eq_true_eq, decide_eq_false_iff_not, Bool.or_eq_true, Bool.or_eq_false_iff, Bool.and_eq_true, Bool.and_eq_false_iff, Bool.not_eq_true', Bool.not_eq_false', Bool.not_eq_true, Bool.not_eq_false, Bool.not_true, Bool.not_false, Int.not_lt, Int.not_le, not_or, not_and, Classical.not_not] at h35
    refine T_seq ?_
    refine T_region ?_
    refine S_ 37 rfl rfl rfl _ (y_move rfl rfl) ?_
    refine S_ 38 rfl rfl rfl _ (y_move rfl rfl) ?_
    refine S_ 39 rfl rfl rfl _ (y_move rfl rfl) ?_
    refine S_callOwn 40 40 rfl rfl rfl rfl rfl rfl rfl cf30 (fun A c => .tuple #[.slice A (resOut fs ms ts).length c, .int .i64 (resNo fs ms ts)]) 67 6 ((resOut fs ms ts).length) ((resOut fs ms ts).flatMap Frm.enc) (fun w hM => Resolved_any fs ms ts w (hfs.below hM.below) (hms.below hM.below) (hts.below hM.below) h35) ?_
    intro A40 c40
    refine S_ 36 rfl rfl rfl _ (y_move rfl rfl) ?_
    refine S_ 41 rfl rfl rfl _ (y_extract rfl rfl rfl) ?_
    refine S_ 42 rfl rfl rfl _ (y_extract rfl rfl rfl) ?_
    refine S_ 13 rfl rfl rfl _ (y_assign rfl rfl) ?_
    refine S_ 12 rfl rfl rfl _ (y_assign rfl rfl) ?_
    refine S_go (fun _ _ h => h) ?_
    refine T_region ?_
    refine S_ 43 rfl rfl rfl _ (y_move rfl rfl) ?_
    refine S_ 44 rfl rfl rfl _ (y_move rfl rfl) ?_
    refine S_ 45 rfl rfl rfl _ (y_move rfl rfl) ?_
    refine S_callOwn 46 46 rfl rfl rfl rfl rfl rfl rfl cf31 (fun A c => .slice A ((missOut fs ms ts).length) c) 9 1 ((missOut fs ms ts).length) ((missOut fs ms ts).flatMap strEnc) (fun w hM => MissingOf_any fs ms ts w (hfs.below hM.below) (hms.below hM.below) (hts.below hM.below) h35) ?_
    intro A46 c46
    refine S_ 14 rfl rfl rfl _ (y_assign rfl rfl) ?_
    refine S_go (fun _ _ h => h) ?_
    refine T_seq ?_
    refine T_region ?_
    refine S_ 47 rfl rfl rfl _ (y_move rfl rfl) ?_
    refine S_ 48 rfl rfl rfl _ (y_move rfl rfl) ?_
    refine S_ 49 rfl rfl rfl _ (y_move rfl rfl) ?_
    refine S_ 50 rfl rfl rfl _ (y_move rfl rfl) ?_
    refine S_ 51 rfl rfl rfl _ (y_call rfl rfl rfl cf32 (fun _ w hM => listedFr_any _ _ _ _ _ _ (resOut fs ms ts) (resOut fs ms ts) _ _ w (SlT.own3 hM rfl (i := 23) rfl) (SlT.own3 hM rfl (i := 40) rfl) (by omega) (by omega) rfl (fun h => if_neg h) (fun _ => rfl))) ?_
    refine S_ 52 rfl rfl rfl _ (y_move rfl rfl) ?_
    refine Sg_ 53 rfl rfl rfl rfl rfl rfl _ (y_move rfl rfl) ?_
    refine Sg_ 54 rfl rfl rfl rfl rfl rfl _ (y_move rfl rfl) ?_
    refine Sg_ 55 rfl rfl rfl rfl rfl rfl _ (y_move rfl rfl) ?_
    refine Sg_ 56 rfl rfl rfl rfl rfl rfl _ (y_move rfl rfl) ?_
    refine Sg_ 57 rfl rfl rfl rfl rfl rfl _ (y_call rfl rfl rfl cf33 (fun hg w hM => listedSt_any _ _ _ _ _ _ (missOut fs ms ts) (missOut fs ms ts) _ _ w (SlT.own3 hM rfl (i := 30) rfl) (SlT.own3 hM rfl (i := 46) rfl) (by omega) (by omega) rfl (fun h => absurd h35 h) (fun _ => rfl))) ?_
    refine S_ 58 rfl rfl rfl _ (y_and rfl rfl rfl) ?_
    refine S_ 6 rfl rfl rfl _ (y_assign rfl rfl) ?_
    refine S_go (fun _ _ h => h) ?_
    refine T_ret (fun a w hF hM => hRb a w (post1 rfl rfl (fun w hM => ?_) a w hF hM))
    exact ⟨rfl, hM.below⟩
  · try simp only [decide_eq_true_eq, decide_eq_false_iff_not, Bool.or_eq_true, Bool.or_eq_false_iff, Bool.and_eq_true, Bool.and_eq_false_iff, Bool.not_eq_true', Bool.not_eq_false', Bool.not_eq_true, Bool.not_eq_false, Bool.not_true, Bool.not_false, Int.not_lt, Int.not_le, not_or, not_and, Classical.not_not] at h35
    refine T_skip_go (fun _ _ h => h) ?_
    refine T_seq ?_
    refine T_region ?_
    refine S_ 47 rfl rfl rfl _ (y_move rfl rfl) ?_
    refine S_ 48 rfl rfl rfl _ (y_move rfl rfl) ?_
    refine S_ 49 rfl rfl rfl _ (y_move rfl rfl) ?_
    refine S_ 50 rfl rfl rfl _ (y_move rfl rfl) ?_
    refine S_ 51 rfl rfl rfl _ (y_call rfl rfl rfl cf32 (fun _ w hM => listedFr_any _ _ _ _ _ _ (resOut fs ms ts) [] _ _ w (SlT.own3 hM rfl (i := 23) rfl) (SlT.own3 hM rfl (i := 13) rfl) (by omega) (by omega) (fst_a rfl h35) (fun _ => if_neg (by rw [show resNo fs ms ts = allNo fs ms ts from fst_a rfl h35]; exact h35)) (fun h => absurd h h35))) ?_
    refine S_ 52 rfl rfl rfl _ (y_move rfl rfl) ?_
    refine Sg_ 53 rfl rfl rfl rfl rfl rfl _ (y_move rfl rfl) ?_
    refine Sg_ 54 rfl rfl rfl rfl rfl rfl _ (y_move rfl rfl) ?_
    refine Sg_ 55 rfl rfl rfl rfl rfl rfl _ (y_move rfl rfl) ?_
    refine Sg_ 56 rfl rfl rfl rfl rfl rfl _ (y_move rfl rfl) ?_
    refine Sg_ 57 rfl rfl rfl rfl rfl rfl _ (y_call rfl rfl rfl cf33 (fun hg w hM => listedSt_any _ _ _ _ _ _ (missOut fs ms ts) [] _ _ w (SlT.own3 hM rfl (i := 30) rfl) (SlT.own3 hM rfl (i := 14) rfl) (by omega) (by omega) rfl (fun _ => if_neg h35) (fun h => absurd h h35))) ?_
    refine S_ 58 rfl rfl rfl _ (y_and rfl rfl rfl) ?_
    refine S_ 6 rfl rfl rfl _ (y_assign rfl rfl) ?_
    refine S_go (fun _ _ h => h) ?_
    refine T_ret (fun a w hF hM => hRb a w (post1 rfl rfl (fun w hM => ?_) a w hF hM))
    exact ⟨rfl, hM.below⟩
end Go.Proofs.YtofolhnecfkjkaaDoor
