/- The law EventSeals walked. Conditions: those of the theorem. -/
import Derived.Test.YtpmlgnbbkpplhaaDoorSOpn
import Derived.Test.YtpmlgnbbkpplhaaDoorESame
namespace Go.Proofs.YtpmlgnbbkpplhaaDoor
set_option linter.unusedSimpArgs false
set_option linter.unusedVariables false
set_option maxRecDepth 20000
open Go.RowKit Go.Eng
theorem toldS_any (v want : List UInt8) (e f : Int) (w : World) :
    Calls Tryd.prog 16 #[str v, .int .i64 e, str want, .int .i64 f] w fun en w' => en = .returned (.bool (decide (v = if f = 0 then want else []) && decide (e = f))) ∧ Below w.heap.size w w' := by
  refine enter_args (args := [str v, .int .i64 e, str want, .int .i64 f]) (F := _) Tryd.func16 rfl Tryd.ntmps16 rfl rfl ?_
  intro Rb hRb hRn
  refine T_seq ?_
  refine T_region ?_
  refine S_ 8 rfl rfl rfl _ (y_assign rfl rfl) ?_
  refine S_go (fun _ _ h => h) ?_
  refine T_seq ?_
  refine T_region ?_
  refine S_ 9 rfl rfl rfl _ (y_assign rfl rfl) ?_
  refine S_go (fun _ _ h => h) ?_
  refine T_seq ?_
  refine T_seq ?_
  refine T_region ?_
  refine S_ 10 rfl rfl rfl _ (y_move rfl rfl) ?_
  refine S_ 11 rfl rfl rfl _ (y_bin rfl rfl rfl (fun _ => b_neq)) ?_
  refine S_go (fun _ _ h => h) ?_
  refine T_cond rfl (fun h11 => ?_) (fun h11 => ?_)
  · try simp only [decide_eq_true_eq, decide_eq_false_iff_not, Bool.or_eq_true, Bool.or_eq_false_iff, Bool.and_eq_true, Bool.and_eq_false_iff, Bool.not_eq_true', Bool.not_eq_false', Bool.not_eq_true, Bool.not_eq_false, Bool.not_true, Bool.not_false, Int.not_lt, Int.not_le, not_or, not_and, Classical.not_not] at h11
    refine T_region ?_
    refine S_ 12 rfl rfl rfl _ (y_move rfl rfl) ?_
    refine S_ 2 rfl rfl rfl _ (y_assign rfl rfl) ?_
    refine S_go (fun _ _ h => h) ?_
    refine T_seq ?_
    refine T_region ?_
    refine S_ 13 rfl rfl rfl _ (y_move rfl rfl) ?_
    refine S_ 14 rfl rfl rfl _ (y_move rfl rfl) ?_
    refine S_ 15 rfl rfl rfl _ (y_bin rfl rfl rfl (fun _ => b_eqls)) ?_
    refine S_ 16 rfl rfl rfl _ (y_move rfl rfl) ?_
    refine Sg_ 17 rfl rfl rfl rfl rfl rfl _ (y_move rfl rfl) ?_
    refine Sg_ 18 rfl rfl rfl rfl rfl rfl _ (y_move rfl rfl) ?_
    refine Sg_ 19 rfl rfl rfl rfl rfl rfl _ (y_bin rfl rfl rfl (fun _ => b_eql)) ?_
    refine S_ 20 rfl rfl rfl _ (y_and rfl rfl rfl) ?_
    refine S_ 8 rfl rfl rfl _ (y_assign rfl rfl) ?_
    refine S_go (fun _ _ h => h) ?_
    refine T_ret (fun a w hF hM => hRb a w (post1 rfl rfl (fun w hM => ?_) a w hF hM))
    exact ⟨by rw [if_neg h11], hM.below⟩
  · try simp only [decide_eq_true_eq, decide_eq_false_iff_not, Bool.or_eq_true, Bool.or_eq_false_iff, Bool.and_eq_true, Bool.and_eq_false_iff, Bool.not_eq_true', Bool.not_eq_false', Bool.not_eq_true, Bool.not_eq_false, Bool.not_true, Bool.not_false, Int.not_lt, Int.not_le, not_or, not_and, Classical.not_not] at h11
    refine T_skip_go (fun _ _ h => h) ?_
    refine T_seq ?_
    refine T_region ?_
    refine S_ 13 rfl rfl rfl _ (y_move rfl rfl) ?_
    refine S_ 14 rfl rfl rfl _ (y_move rfl rfl) ?_
    refine S_ 15 rfl rfl rfl _ (y_bin rfl rfl rfl (fun _ => b_eqls)) ?_
    refine S_ 16 rfl rfl rfl _ (y_move rfl rfl) ?_
    refine Sg_ 17 rfl rfl rfl rfl rfl rfl _ (y_move rfl rfl) ?_
    refine Sg_ 18 rfl rfl rfl rfl rfl rfl _ (y_move rfl rfl) ?_
    refine Sg_ 19 rfl rfl rfl rfl rfl rfl _ (y_bin rfl rfl rfl (fun _ => b_eql)) ?_
    refine S_ 20 rfl rfl rfl _ (y_and rfl rfl rfl) ?_
    refine S_ 8 rfl rfl rfl _ (y_assign rfl rfl) ?_
    refine S_go (fun _ _ h => h) ?_
    refine T_ret (fun a w hF hM => hRb a w (post1 rfl rfl (fun w hM => ?_) a w hF hM))
    exact ⟨by rw [if_pos h11], hM.below⟩
def SItem.eqB (a b : SItem) : Bool := decide (a.k = b.k) && decide (a.b = b.b)
theorem SItem.eqB_refl (a : SItem) : SItem.eqB a a = true := by simp [SItem.eqB]
theorem EqualIt_any (A B : Option Addr) (q c p d : Nat) (l m : List SItem) (w : World) (hl : SlT SItem.enc 2 w A q l) (hm : SlT SItem.enc 2 w B p m) (hq : q ≤ 4611686018427387904) (hp : p ≤ 4611686018427387904) :
    Calls Tryd.prog 54 #[.slice A q c, .slice B p d] w fun e w' => e = .returned (.bool (eqLB SItem.eqB l m)) ∧ Below w.heap.size w w' := by
  have hlen := hl.len
  have hmen := hm.len
  refine enter_args (args := [.slice A q c, .slice B p d]) (F := _) Tryd.func54 rfl Tryd.ntmps54 rfl rfl ?_
  intro Rb hRb hRn
  refine T_seq ?_
  refine T_region ?_
  refine S_ 4 rfl rfl rfl _ (y_assign rfl rfl) ?_
  refine S_go (fun _ _ h => h) ?_
  refine T_seq ?_
  refine T_seq ?_
  refine T_region ?_
  refine S_ 6 rfl rfl rfl _ (y_move rfl rfl) ?_
  refine S_ 7 rfl rfl rfl _ (y_len_slice rfl rfl Tryd.underlying49) ?_
  refine S_ 8 rfl rfl rfl _ (y_move rfl rfl) ?_
  refine S_ 9 rfl rfl rfl _ (y_len_slice rfl rfl Tryd.underlying49) ?_
  refine S_ 10 rfl rfl rfl _ (y_bin rfl rfl rfl (fun _ => b_neq)) ?_
  refine S_go (fun _ _ h => h) ?_
  refine T_cond rfl (fun h10 => ?_) (fun h10 => ?_)
  · try simp only [decide_eq_true_eq, decide_eq_false_iff_not, Bool.or_eq_true, Bool.or_eq_false_iff, Bool.and_eq_true, Bool.and_eq_false_iff, Bool.not_eq_true', Bool.not_eq_false', Bool.not_eq_true, Bool.not_eq_false, Bool.not_true, Bool.not_false, Int.not_lt, Int.not_le, not_or, not_and, Classical.not_not] at h10
    refine T_seq ?_
    refine T_region ?_
    refine S_ 4 rfl rfl rfl _ (y_assign rfl rfl) ?_
    refine S_go (fun _ _ h => h) ?_
    refine T_ret (fun a w hF hM => hRb a w (post1 rfl rfl (fun w hM => ?_) a w hF hM))
    exact ⟨by rw [eqLB_len l m (by omega)], hM.below⟩
  · try simp only [decide_eq_true_eq, decide_eq_false_iff_not, Bool.or_eq_true, Bool.or_eq_false_iff, Bool.and_eq_true, Bool.and_eq_false_iff, Bool.not_eq_true', Bool.not_eq_false', Bool.not_eq_true, Bool.not_eq_false, Bool.not_true, Bool.not_false, Int.not_lt, Int.not_le, not_or, not_and, Classical.not_not] at h10
    refine T_skip_go (fun _ _ h => h) ?_
    refine T_seq ?_
    refine T_seq ?_
    refine T_region ?_
    refine S_ 11 rfl rfl rfl _ (y_move rfl rfl) ?_
    refine S_ 12 rfl rfl rfl _ (y_len_slice rfl rfl Tryd.underlying49) ?_
    refine S_ 13 rfl rfl rfl _ (y_move rfl rfl) ?_
    refine S_go (fun _ _ h => h) ?_
    refine T_block ?_
    refine T_loopK1 (kf := [(4, 5), (13, 25)]) (kl := [(4, 5), (13, 25)]) (fun (i : Nat) => [(13, true, .int .i64 (i : Int))]) (fun (i : Nat) => []) (fun (i : Nat) => i ≤ q ∧ eqLB SItem.eqB l m = eqLB SItem.eqB (l.drop i) (m.drop i)) (fun (i : Nat) => q - i) 0 (by repeat (first | exact kf_nil | (apply kf_in; focus rfl) | (apply kf_out; focus rfl))) (by repeat (first | exact kl_nil | exact kl_rest (by assumption) rfl | (apply kl_in; focus rfl) | (apply kl_out; focus rfl))) ?_ ?_ ?_ ?_
    · exact ⟨by omega, rfl⟩
    · exact ⟨rfl, trivial⟩
    · exact trivial
    rintro i ⟨hp1, hp2⟩
    refine T_seq ?_
    refine T_region ?_
    refine S_ 14 rfl rfl rfl _ (y_bin rfl rfl rfl (fun _ => b_lss)) ?_
    refine S_go (fun _ _ h => h) ?_
    refine T_seq ?_
    refine T_cond rfl (fun h14 => ?_) (fun h14 => ?_)
    · try simp only [decide_eq_true_eq, decide_eq_false_iff_not, Bool.or_eq_true, Bool.or_eq_false_iff, Bool.and_eq_true, Bool.and_eq_false_iff, Bool.not_eq_true', Bool.not_eq_false', Bool.not_eq_true, Bool.not_eq_false, Bool.not_true, Bool.not_false, Int.not_lt, Int.not_le, not_or, not_and, Classical.not_not] at h14
      obtain ⟨a, hx1, hx2⟩ := hl.at (i := i) (by omega)
      obtain ⟨b, hy1, hy2⟩ := hm.at (i := i) (by omega)
      refine T_skip_go (fun _ _ h => h) ?_
      refine T_seq ?_
      refine T_block ?_
      refine T_seq ?_
      refine T_region ?_
      refine S_ 15 rfl rfl rfl _ (y_move rfl rfl) ?_
      refine S_ 5 rfl rfl rfl _ (y_assign rfl rfl) ?_
      refine S_go (fun _ _ h => h) ?_
      refine T_seq ?_
      refine T_draws (by kernel_rfl) (by kernel_rfl) ?_
      refine D_ 16 rfl rfl rfl _ (y_move rfl rfl) ?_
      refine D_ 17 rfl rfl rfl _ (y_move rfl rfl) ?_
      refine D_ 18 rfl rfl rfl _ (y_indexAddr rfl rfl rfl Tryd.underlying49 sz56 (fun hg => hl.isSome (by omega)) (fun _ => by omega)) ?_
      refine D_ 19 rfl rfl rfl _ (y_loadT rfl rfl hl (fun _ => rfl) (fun _ => hx1) Tryd.underlying56 rfl sz56) ?_
      refine D_ 20 rfl rfl rfl _ (y_move rfl rfl) ?_
      refine D_ 21 rfl rfl rfl _ (y_move rfl rfl) ?_
      refine D_ 22 rfl rfl rfl _ (y_indexAddr rfl rfl rfl Tryd.underlying49 sz56 (fun hg => hm.isSome (by omega)) (fun _ => by omega)) ?_
      refine D_ 23 rfl rfl rfl _ (y_loadT rfl rfl hm (fun _ => rfl) (fun _ => hy1) Tryd.underlying56 rfl sz56) ?_
      refine D_ 24 rfl rfl rfl _ (y_as (v' := .bool (!(SItem.eqB a b))) (by simp [SItem.eqB, str]) (y_bin rfl rfl rfl (fun _ => b_neqA (rs := [_, _]) Tryd.underlying56 (by kernel_rfl) (by kernel_rfl) ⟨by decide, ⟨_, Tryd.underlying9, rfl, _, _, rfl, rfl, rfl⟩, by decide, ⟨_, Tryd.underlying9, rfl, _, _, rfl, rfl, rfl⟩, trivial⟩))) ?_
      refine D_go (fun _ _ h => h) ?_
      refine T_cond rfl (fun h24 => ?_) (fun h24 => ?_)
      · skip
        have h24e : SItem.eqB a b = false := by simpa using h24
        refine T_seq ?_
        refine T_region ?_
        refine S_ 4 rfl rfl rfl _ (y_assign rfl rfl) ?_
        refine S_go (fun _ _ h => h) ?_
        refine T_ret (fun a w hF hM => hRb a w (post1 rfl rfl (fun w hM => ?_) a w hF hM))
        exact ⟨by rw [hp2, hx2, hy2, eqLB, h24e, Bool.false_and], hM.below⟩
      · skip
        have h24e : SItem.eqB a b = true := by simpa using h24
        refine T_skip_go (fun _ _ h => h) ?_
        refine T_region ?_
        refine S_ 25 rfl rfl rfl _ (y_bin rfl rfl rfl (fun hg => b_add (by omega))) ?_
        refine S_ 13 rfl rfl rfl _ (y_move rfl rfl) ?_
        refine S_nil (nextK1 (kf := [(4, 5), (13, 25)]) (kl := [(4, 5), (13, 25)]) (i + 1) (by repeat (first | exact kf_nil | (apply kf_in; focus rfl) | (apply kf_out; focus rfl))) (by repeat (first | exact kl_nil | exact kl_rest (by assumption) rfl | (apply kl_in; focus rfl) | (apply kl_out; focus rfl))) ?_ ?_ ?_ ?_)
        · omega
        · exact ⟨by omega, by rw [hp2, hx2, hy2, eqLB, h24e, Bool.true_and]⟩
        · exact ⟨rfl, trivial⟩
        · exact trivial
    · try simp only [decide_eq_true_eq, decide_eq_false_iff_not, Bool.or_eq_true, Bool.or_eq_false_iff, Bool.and_eq_true, Bool.and_eq_false_iff, Bool.not_eq_true', Bool.not_eq_false', Bool.not_eq_true, Bool.not_eq_false, Bool.not_true, Bool.not_false, Int.not_lt, Int.not_le, not_or, not_and, Classical.not_not] at h14
      refine T_exit_go (fun _ _ h => h) ?_
      refine T_seq ?_
      refine T_region ?_
      refine S_ 4 rfl rfl rfl _ (y_assign rfl rfl) ?_
      refine S_go (fun _ _ h => h) ?_
      refine T_ret (fun a w hF hM => hRb a w (post1 rfl rfl (fun w hM => ?_) a w hF hM))
      exact ⟨by rw [hp2, hl.end (by omega), hm.end (by omega)]; rfl, hM.below⟩
theorem nilIt {w : World} : SlT SItem.enc 2 w none 0 [] := ⟨⟨by simp, fun h => by simp at h⟩, rfl⟩
theorem listedIt_any (A B : Option Addr) (q c p d : Nat) (l m : List SItem) (e x : Int) (w : World) (hl : SlT SItem.enc 2 w A q l) (hm : SlT SItem.enc 2 w B p m) (hq : q ≤ 4611686018427387904) (hp : p ≤ 4611686018427387904) (he : e = x) (hz : x ≠ 0 → l = []) (h0 : x = 0 → m = l) :
    Calls Tryd.prog 19 #[.slice A q c, .int .i64 e, .slice B p d, .int .i64 x] w fun e w' => e = .returned (.bool true) ∧ Below w.heap.size w w' := by
  subst he
  refine enter_args (args := [.slice A q c, .int .i64 e, .slice B p d, .int .i64 e]) (F := _) Tryd.func19 rfl Tryd.ntmps19 rfl rfl ?_
  intro Rb hRb hRn
  refine T_seq ?_
  refine T_region ?_
  refine S_ 8 rfl rfl rfl _ (y_assign rfl rfl) ?_
  refine S_go (fun _ _ h => h) ?_
  refine T_seq ?_
  refine T_seq ?_
  refine T_region ?_
  refine S_ 9 rfl rfl rfl _ (y_move rfl rfl) ?_
  refine S_ 10 rfl rfl rfl _ (y_bin rfl rfl rfl (fun _ => b_neq)) ?_
  refine S_go (fun _ _ h => h) ?_
  refine T_cond rfl (fun h10 => ?_) (fun h10 => ?_)
  · try simp only [decide_eq_true_eq, decide_eq_false_iff_not, Bool.or_eq_true, Bool.or_eq_false_iff, Bool.and_eq_true, Bool.and_eq_false_iff, Bool.not_eq_true', Bool.not_eq_false', Bool.not_eq_true, Bool.not_eq_false, Bool.not_true, Bool.not_false, Int.not_lt, Int.not_le, not_or, not_and, Classical.not_not] at h10
    refine T_region ?_
    refine S_nilSlice 2 (e := 56) (size := 2) ?_
    refine S_ 2 rfl rfl rfl _ (y_assign rfl rfl) ?_
    refine S_go (fun _ _ h => h) ?_
    refine T_seq ?_
    refine T_region ?_
    refine S_ 11 rfl rfl rfl _ (y_move rfl rfl) ?_
    refine S_ 12 rfl rfl rfl _ (y_move rfl rfl) ?_
    refine S_ 13 rfl rfl rfl _ (y_call rfl rfl rfl cf54 (fun _ w hM => EqualIt_any _ _ _ _ _ _ l [] w (hl.below hM.below) nilIt hq (by omega))) ?_
    refine S_ 14 rfl rfl rfl _ (y_move rfl rfl) ?_
    refine Sg_ 15 rfl rfl rfl rfl rfl rfl _ (y_move rfl rfl) ?_
    refine Sg_ 16 rfl rfl rfl rfl rfl rfl _ (y_move rfl rfl) ?_
    refine Sg_ 17 rfl rfl rfl rfl rfl rfl _ (y_bin rfl rfl rfl (fun _ => b_eql)) ?_
    refine S_ 18 rfl rfl rfl _ (y_and rfl rfl rfl) ?_
    refine S_ 8 rfl rfl rfl _ (y_assign rfl rfl) ?_
    refine S_go (fun _ _ h => h) ?_
    refine T_ret (fun a w hF hM => hRb a w (post1 rfl rfl (fun w hM => ?_) a w hF hM))
    exact ⟨by rw [hz h10]; simp [eqLB], hM.below⟩
  · try simp only [decide_eq_true_eq, decide_eq_false_iff_not, Bool.or_eq_true, Bool.or_eq_false_iff, Bool.and_eq_true, Bool.and_eq_false_iff, Bool.not_eq_true', Bool.not_eq_false', Bool.not_eq_true, Bool.not_eq_false, Bool.not_true, Bool.not_false, Int.not_lt, Int.not_le, not_or, not_and, Classical.not_not] at h10
    refine T_skip_go (fun _ _ h => h) ?_
    refine T_seq ?_
    refine T_region ?_
    refine S_ 11 rfl rfl rfl _ (y_move rfl rfl) ?_
    refine S_ 12 rfl rfl rfl _ (y_move rfl rfl) ?_
    refine S_ 13 rfl rfl rfl _ (y_call rfl rfl rfl cf54 (fun _ w hM => EqualIt_any _ _ _ _ _ _ l m w (hl.below hM.below) (hm.below hM.below) hq hp)) ?_
    refine S_ 14 rfl rfl rfl _ (y_move rfl rfl) ?_
    refine Sg_ 15 rfl rfl rfl rfl rfl rfl _ (y_move rfl rfl) ?_
    refine Sg_ 16 rfl rfl rfl rfl rfl rfl _ (y_move rfl rfl) ?_
    refine Sg_ 17 rfl rfl rfl rfl rfl rfl _ (y_bin rfl rfl rfl (fun _ => b_eql)) ?_
    refine S_ 18 rfl rfl rfl _ (y_and rfl rfl rfl) ?_
    refine S_ 8 rfl rfl rfl _ (y_assign rfl rfl) ?_
    refine S_go (fun _ _ h => h) ?_
    refine T_ret (fun a w hF hM => hRb a w (post1 rfl rfl (fun w hM => ?_) a w hF hM))
    exact ⟨by rw [h0 h10, eqL_refl SItem.eqB_refl]; simp, hM.below⟩
theorem open_bad {u : List UInt8} (h : (openRes u).1 ≠ 0) : (openRes u).2 = [] := by
  unfold openRes at h ⊢
  repeat' (split at h <;> (try (rename_i a; first | rw [if_pos a] | rw [if_neg a])) <;> try rfl)
  exact absurd rfl h
theorem oi_le (u : List UInt8) : (openRes u).2.length ≤ 100 := by
  unfold openRes
  repeat' (split <;> try exact Nat.zero_le _)
  show (oiRes (cutC 10 u).2.1 (openMany u)).1.length ≤ 100
  omega
theorem seal_bad {l : Sl SItem} (h : (sealRes l).1 ≠ 0) : (sealRes l).2 = [] := by
  unfold sealRes at h ⊢
  repeat' (split at h <;> (try (rename_i a; first | rw [if_pos a] | rw [if_neg a])) <;> try rfl)
  exact absurd rfl h
set_option maxHeartbeats 1600000 in
theorem EventSeals_any (l : Sl SItem) (s : List UInt8) (w : World) (hl : ItemsOk w l) (hs : tot l.l ≤ 1048576) (hT : TzTab w) (hP : P10 w) :
    Calls Tryd.prog 5 #[.slice l.A l.q l.c, str s] w fun e w' => e = .returned (.bool true) ∧ Below w.heap.size w w' := by
  have hsb := seal_bad (l := l)
  refine enter_args (args := [.slice l.A l.q l.c, str s]) (F := _) Tryd.func5 rfl Tryd.ntmps5 rfl rfl ?_
  intro Rb hRb hRn
  refine T_seq ?_
  refine T_region ?_
  refine S_ 4 rfl rfl rfl _ (y_assign rfl rfl) ?_
  refine S_go (fun _ _ h => h) ?_
  refine T_seq ?_
  refine T_region ?_
  refine S_ 16 rfl rfl rfl _ (y_move rfl rfl) ?_
  refine S_ 17 rfl rfl rfl _ (y_call rfl rfl rfl cf14 (fun _ w hM => Seal_any l w (hl.below hM.below) hs (hT.below hM.below) (hP.below hM.below))) ?_
  refine S_ 15 rfl rfl rfl _ (y_move rfl rfl) ?_
  refine S_ 18 rfl rfl rfl _ (y_extract rfl rfl rfl) ?_
  refine S_ 19 rfl rfl rfl _ (y_extract rfl rfl rfl) ?_
  refine S_ 5 rfl rfl rfl _ (y_assign rfl rfl) ?_
  refine S_ 6 rfl rfl rfl _ (y_assign rfl rfl) ?_
  refine S_go (fun _ _ h => h) ?_
  refine T_seq ?_
  refine T_region ?_
  refine S_ 21 rfl rfl rfl _ (y_move rfl rfl) ?_
  refine S_ 22 rfl rfl rfl _ (y_call rfl rfl rfl cf15 (fun _ w hM => Sealed_any l w (hl.below hM.below) hs (hT.below hM.below) (hP.below hM.below))) ?_
  refine S_ 20 rfl rfl rfl _ (y_move rfl rfl) ?_
  refine S_ 23 rfl rfl rfl _ (y_extract rfl rfl rfl) ?_
  refine S_ 24 rfl rfl rfl _ (y_extract rfl rfl rfl) ?_
  refine S_ 7 rfl rfl rfl _ (y_assign rfl rfl) ?_
  refine S_ 8 rfl rfl rfl _ (y_assign rfl rfl) ?_
  refine S_go (fun _ _ h => h) ?_
  refine T_seq ?_
  refine T_seq ?_
  refine T_region ?_
  refine S_ 25 rfl rfl rfl _ (y_move rfl rfl) ?_
  refine S_ 26 rfl rfl rfl _ (y_move rfl rfl) ?_
  refine S_ 27 rfl rfl rfl _ (y_move rfl rfl) ?_
  refine S_ 28 rfl rfl rfl _ (y_move rfl rfl) ?_
  refine S_ 29 rfl rfl rfl _ (y_call rfl rfl rfl cf16 (fun _ w _ => toldS_any _ _ _ _ w)) ?_
  refine S_ 30 rfl rfl rfl _ (y_not rfl rfl) ?_
  refine S_go (fun _ _ h => h) ?_
  refine T_cond rfl (fun h30 => ?_) (fun h30 => ?_)
  · skip
    exfalso
    by_cases hz : (sealRes l).1 = 0
    · simp [hz] at h30
    · simp [hz, hsb hz] at h30
  · skip
    refine T_skip_go (fun _ _ h => h) ?_
    refine T_seq ?_
    refine T_seq ?_
    refine T_region ?_
    refine S_ 31 rfl rfl rfl _ (y_move rfl rfl) ?_
    refine S_ 32 rfl rfl rfl _ (y_move rfl rfl) ?_
    refine S_buildSlice 33 33 rfl rfl rfl rfl rfl Tryd.underlying40 inf9 rfl (by decide) (by decide) rfl rfl (by decide) rfl (_) rfl ?_
    intro b33
    refine S_ 34 rfl rfl rfl _ (y_len_slice rfl rfl Tryd.underlying40) ?_
    refine S_ 35 rfl rfl rfl _ (y_move rfl rfl) ?_
    refine S_go (fun _ _ h => h) ?_
    refine T_block ?_
    refine T_loopK1 (kf := [(4, 4), (10, 14), (35, 55)]) (kl := [(4, 4), (10, 14), (33, 33), (35, 55)]) (fun (i : Nat) => [(35, true, .int .i64 (i : Int))]) (fun (i : Nat) => [(33, .own 9 1 (.slice (some ⟨b33, 0, none⟩) 2 2) 2 (([s, (sealRes l).2] : List (List UInt8)).flatMap strE))]) (fun (i : Nat) => i ≤ 2) (fun (i : Nat) => 2 - i) 0 (by repeat (first | exact kf_nil | (apply kf_in; focus rfl) | (apply kf_out; focus rfl))) (by repeat (first | exact kl_nil | exact kl_rest (by assumption) rfl | (apply kl_in; focus rfl) | (apply kl_out; focus rfl))) ?_ ?_ ?_ ?_
    · omega
    · exact ⟨rfl, trivial⟩
    · exact ⟨rfl, trivial⟩
    rintro i hp1
    refine T_seq ?_
    refine T_region ?_
    refine S_ 36 rfl rfl rfl _ (y_bin rfl rfl rfl (fun _ => b_lss)) ?_
    refine S_go (fun _ _ h => h) ?_
    refine T_seq ?_
    refine T_cond rfl (fun h36 => ?_) (fun h36 => ?_)
    · try simp only [decide_eq_true_eq, decide_eq_false_iff_not, Bool.or_eq_true, Bool.or_eq_false_iff, Bool.and_eq_true, Bool.and_eq_false_iff, Bool.not_eq_true', Bool.not_eq_false', Bool.not_eq_true, Bool.not_eq_false, Bool.not_true, Bool.not_false, Int.not_lt, Int.not_le, not_or, not_and, Classical.not_not] at h36
      obtain ⟨u, hx1⟩ : ∃ u, ([s, (sealRes l).2] : List (List UInt8))[i]? = some u := ⟨_, List.getElem?_eq_getElem (by show i < 2; omega)⟩
      have hul := oi_le u
      refine T_skip_go (fun _ _ h => h) ?_
      refine T_seq ?_
      refine T_block ?_
      refine T_seq ?_
      refine T_region ?_
      refine S_ 37 rfl rfl rfl _ (y_indexOwn 33 rfl rfl rfl rfl Tryd.underlying40 sz9 (fun _ => by omega)) ?_
      refine S_ 38 rfl rfl rfl _ (y_loadO1 33 (val := (fun l : List UInt8 => str l)) rfl rfl rfl rfl (fun _ => hx1) Tryd.underlying9 rfl) ?_
      refine S_ 10 rfl rfl rfl _ (y_assign rfl rfl) ?_
      refine S_go (fun _ _ h => h) ?_
      refine T_seq ?_
      refine T_region ?_
      refine S_ 40 rfl rfl rfl _ (y_move rfl rfl) ?_
      refine S_callOwn 41 41 rfl rfl rfl rfl rfl rfl rfl cf17 (fun A c => .tuple #[.slice A (openRes u).2.length c, .int .i64 (openRes u).1]) 56 2 ((openRes u).2.length) ((openRes u).2.flatMap SItem.enc) (fun w hM => Open_any u w (hT.below hM.below)) ?_
      intro A41 c41
      refine S_ 39 rfl rfl rfl _ (y_move rfl rfl) ?_
      refine S_ 42 rfl rfl rfl _ (y_extract rfl rfl rfl) ?_
      refine S_ 43 rfl rfl rfl _ (y_extract rfl rfl rfl) ?_
      refine S_ 11 rfl rfl rfl _ (y_assign rfl rfl) ?_
      refine S_ 12 rfl rfl rfl _ (y_assign rfl rfl) ?_
      refine S_go (fun _ _ h => h) ?_
      refine T_seq ?_
      refine T_region ?_
      refine S_ 45 rfl rfl rfl _ (y_move rfl rfl) ?_
      refine S_callOwn 46 46 rfl rfl rfl rfl rfl rfl rfl cf18 (fun A c => .tuple #[.slice A (openRes u).2.length c, .int .i64 (openRes u).1]) 56 2 ((openRes u).2.length) ((openRes u).2.flatMap SItem.enc) (fun w hM => Opened_any u w (hT.below hM.below)) ?_
      intro A46 c46
      refine S_ 44 rfl rfl rfl _ (y_move rfl rfl) ?_
      refine S_ 47 rfl rfl rfl _ (y_extract rfl rfl rfl) ?_
      refine S_ 48 rfl rfl rfl _ (y_extract rfl rfl rfl) ?_
      refine S_ 13 rfl rfl rfl _ (y_assign rfl rfl) ?_
      refine S_ 14 rfl rfl rfl _ (y_assign rfl rfl) ?_
      refine S_go (fun _ _ h => h) ?_
      refine T_seq ?_
      refine T_region ?_
      refine S_ 49 rfl rfl rfl _ (y_move rfl rfl) ?_
      refine S_ 50 rfl rfl rfl _ (y_move rfl rfl) ?_
      refine S_ 51 rfl rfl rfl _ (y_move rfl rfl) ?_
      refine S_ 52 rfl rfl rfl _ (y_move rfl rfl) ?_
      refine S_ 53 rfl rfl rfl _ (y_call rfl rfl rfl cf19 (fun _ w hM => listedIt_any _ _ _ _ _ _ (openRes u).2 (openRes u).2 _ _ w (owned_T (enc := SItem.enc) hM rfl (i := 41) rfl) (owned_T (enc := SItem.enc) hM rfl (i := 46) rfl) (by omega) (by omega) rfl open_bad (fun _ => rfl))) ?_
      refine S_ 54 rfl rfl rfl _ (y_not rfl rfl) ?_
      refine S_go (fun _ _ h => h) ?_
      refine T_cond rfl (fun h54 => ?_) (fun h54 => ?_)
      · skip
        simp at h54
      · skip
        refine T_skip_go (fun _ _ h => h) ?_
        refine T_region ?_
        refine S_ 55 rfl rfl rfl _ (y_bin rfl rfl rfl (fun hg => b_add (by omega))) ?_
        refine S_ 35 rfl rfl rfl _ (y_move rfl rfl) ?_
        refine S_nil (nextK1 (kf := [(4, 4), (10, 14), (35, 55)]) (kl := [(4, 4), (10, 14), (33, 33), (35, 55)]) (i + 1) (by repeat (first | exact kf_nil | (apply kf_in; focus rfl) | (apply kf_out; focus rfl))) (by repeat (first | exact kl_nil | exact kl_rest (by assumption) rfl | (apply kl_in; focus rfl) | (apply kl_out; focus rfl))) ?_ ?_ ?_ ?_)
        · omega
        · omega
        · exact ⟨rfl, trivial⟩
        · exact ⟨rfl, trivial⟩
    · try simp only [decide_eq_true_eq, decide_eq_false_iff_not, Bool.or_eq_true, Bool.or_eq_false_iff, Bool.and_eq_true, Bool.and_eq_false_iff, Bool.not_eq_true', Bool.not_eq_false', Bool.not_eq_true, Bool.not_eq_false, Bool.not_true, Bool.not_false, Int.not_lt, Int.not_le, not_or, not_and, Classical.not_not] at h36
      refine T_exit_go (fun _ _ h => h) ?_
      refine T_seq ?_
      refine T_region ?_
      refine S_ 4 rfl rfl rfl _ (y_assign rfl rfl) ?_
      refine S_go (fun _ _ h => h) ?_
      refine T_ret (fun a w hF hM => hRb a w (post1 rfl rfl (fun w hM => ?_) a w hF hM))
      exact ⟨rfl, hM.below⟩
end Go.Proofs.YtpmlgnbbkpplhaaDoor
