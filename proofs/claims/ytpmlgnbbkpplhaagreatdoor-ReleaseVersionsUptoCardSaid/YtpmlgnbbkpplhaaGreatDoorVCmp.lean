/- Compare, walked, and versions as they lie in memory. Conditions: those of each theorem. -/
import Derived.Test.YtpmlgnbbkpplhaaGreatDoorVPar
namespace Go.Proofs.YtpmlgnbbkpplhaaGreatDoor
set_option linter.unusedSimpArgs false
set_option linter.unusedVariables false
set_option maxRecDepth 20000
open Go.RowKit Go.Eng
structure SVer where
  p : List UInt8
  a : Int
  b : Int
  c : Int
  pre : Sl (List UInt8)
def SVer.enc (v : SVer) : List Value := [str v.p, .int .i64 v.a, .int .i64 v.b, .int .i64 v.c, .slice v.pre.A v.pre.q v.pre.c]
def SVer.val (v : SVer) : Value := .agg v.enc.toArray
def SVer.says (v : SVer) : PVer := ⟨v.p, v.a, v.b, v.c, v.pre.l⟩
structure VerOk (w : World) (v : SVer) : Prop where
  ok : v.pre.Ok strE 1 w
  q : v.pre.q ≤ 1000000000
  n : ∀ s ∈ v.pre.l, s.length ≤ 1000000000
  s : v.p.length ≤ 1000000000
  a : -9223372036854775808 ≤ v.a ∧ v.a ≤ 9223372036854775807
  b : -9223372036854775808 ≤ v.b ∧ v.b ≤ 9223372036854775807
  c : -9223372036854775808 ≤ v.c ∧ v.c ≤ 9223372036854775807
theorem VerOk.below {w w' : World} {v : SVer} (h : VerOk w v) (hb : Below w.heap.size w w') : VerOk w' v := ⟨h.ok.below hb, h.q, h.n, h.s, h.a, h.b, h.c⟩
def iE (n : Int) : List Value := [.int .i64 n]
theorem or4_any (A : Option Addr) (c : Nat) (x0 x1 x2 x3 : Int) (w : World) (hl : SlT iE 1 w A 4 [x0, x1, x2, x3]) : Calls Tryz.prog 95 #[.slice A 4 c] w fun e w' => e = .returned (.int .i64 (or4 x0 x1 x2 x3)) ∧ Below w.heap.size w w' := by
  refine enter_args (args := [.slice A 4 c]) (F := _) Tryz.func95 rfl Tryz.ntmps95 rfl rfl ?_
  intro Rb hRb hRn
  refine T_seq ?_
  refine T_region ?_
  refine S_ 2 rfl rfl rfl _ (y_assign rfl rfl) ?_
  refine S_go (fun _ _ h => h) ?_
  refine T_seq ?_
  refine T_region ?_
  refine S_ 3 rfl rfl rfl _ (y_assign rfl rfl) ?_
  refine S_go (fun _ _ h => h) ?_
  refine T_seq ?_
  refine T_seq ?_
  refine T_region ?_
  refine S_ 6 rfl rfl rfl _ (y_move rfl rfl) ?_
  refine S_ 7 rfl rfl rfl _ (y_len_slice rfl rfl Tryz.underlying142) ?_
  refine S_ 8 rfl rfl rfl _ (y_move rfl rfl) ?_
  refine S_go (fun _ _ h => h) ?_
  refine T_block ?_
  refine T_loopK1 (kf := [(2, 2), (5, 5), (8, 16)]) (kl := [(2, 2), (5, 5), (8, 16)]) (fun (i : Nat) => [(8, true, .int .i64 (i : Int))]) (fun (i : Nat) => []) (fun (i : Nat) => i ≤ 4 ∧ or4 x0 x1 x2 x3 = (([x0, x1, x2, x3].drop i).find? (fun x => decide (x ≠ 0))).getD 0) (fun (i : Nat) => 4 - i) 0 (by repeat (first | exact kf_nil | (apply kf_in; focus rfl) | (apply kf_out; focus rfl))) (by repeat (first | exact kl_nil | exact kl_rest (by assumption) rfl | (apply kl_in; focus rfl) | (apply kl_out; focus rfl))) ?_ ?_ ?_ ?_
  · exact ⟨by omega, by unfold or4; by_cases h0 : x0 = 0 <;> by_cases h1 : x1 = 0 <;> by_cases h2 : x2 = 0 <;> by_cases h3 : x3 = 0 <;> simp [h0, h1, h2, h3]⟩
  · exact ⟨rfl, trivial⟩
  · exact trivial
  rintro i ⟨hp1, hp2⟩
  refine T_seq ?_
  refine T_region ?_
  refine S_ 9 rfl rfl rfl _ (y_bin rfl rfl rfl (fun _ => b_lss)) ?_
  refine S_go (fun _ _ h => h) ?_
  refine T_seq ?_
  refine T_cond rfl (fun h9 => ?_) (fun h9 => ?_)
  · try simp only [decide_eq_true_eq, decide_eq_false_iff_not, Bool.or_eq_true, Bool.or_eq_false_iff, Bool.and_eq_true, Bool.and_eq_false_iff, Bool.not_eq_true', Bool.not_eq_false', Bool.not_eq_true, Bool.not_eq_false, Bool.not_true, Bool.not_false, Int.not_lt, Int.not_le, not_or, not_and, Classical.not_not] at h9
    obtain ⟨x, hx1, hx2⟩ := hl.at (i := i) (by omega)
    refine T_skip_go (fun _ _ h => h) ?_
    refine T_seq ?_
    refine T_block ?_
    refine T_seq ?_
    refine T_region ?_
    refine S_ 10 rfl rfl rfl _ (y_indexAddr rfl rfl rfl Tryz.underlying142 sz3 (fun hg => hl.isSome (by omega)) (fun _ => by omega)) ?_
    refine S_ 11 rfl rfl rfl _ (y_loadT1 (val := (fun n : Int => Value.int .i64 n)) rfl rfl hl (fun _ => hx1) Tryz.underlying3 rfl) ?_
    refine S_ 5 rfl rfl rfl _ (y_assign rfl rfl) ?_
    refine S_go (fun _ _ h => h) ?_
    refine T_seq ?_
    refine T_region ?_
    refine S_ 12 rfl rfl rfl _ (y_move rfl rfl) ?_
    refine S_ 13 rfl rfl rfl _ (y_move rfl rfl) ?_
    refine S_ 14 rfl rfl rfl _ (y_bin rfl rfl rfl (fun _ => b_neq)) ?_
    refine S_go (fun _ _ h => h) ?_
    refine T_cond rfl (fun h14 => ?_) (fun h14 => ?_)
    · try simp only [decide_eq_true_eq, decide_eq_false_iff_not, Bool.or_eq_true, Bool.or_eq_false_iff, Bool.and_eq_true, Bool.and_eq_false_iff, Bool.not_eq_true', Bool.not_eq_false', Bool.not_eq_true, Bool.not_eq_false, Bool.not_true, Bool.not_false, Int.not_lt, Int.not_le, not_or, not_and, Classical.not_not] at h14
      refine T_seq ?_
      refine T_region ?_
      refine S_ 15 rfl rfl rfl _ (y_move rfl rfl) ?_
      refine S_ 2 rfl rfl rfl _ (y_assign rfl rfl) ?_
      refine S_go (fun _ _ h => h) ?_
      refine T_ret (fun a w hF hM => hRb a w (post1 rfl rfl (fun w hM => ?_) a w hF hM))
      exact ⟨by rw [hp2, hx2, List.find?_cons_of_pos (by simpa using h14)]; rfl, hM.below⟩
    · try simp only [decide_eq_true_eq, decide_eq_false_iff_not, Bool.or_eq_true, Bool.or_eq_false_iff, Bool.and_eq_true, Bool.and_eq_false_iff, Bool.not_eq_true', Bool.not_eq_false', Bool.not_eq_true, Bool.not_eq_false, Bool.not_true, Bool.not_false, Int.not_lt, Int.not_le, not_or, not_and, Classical.not_not] at h14
      refine T_skip_go (fun _ _ h => h) ?_
      refine T_region ?_
      refine S_ 16 rfl rfl rfl _ (y_bin rfl rfl rfl (fun hg => b_add (by omega))) ?_
      refine S_ 8 rfl rfl rfl _ (y_move rfl rfl) ?_
      refine S_nil (nextK1 (kf := [(2, 2), (5, 5), (8, 16)]) (kl := [(2, 2), (5, 5), (8, 16)]) (i + 1) (by repeat (first | exact kf_nil | (apply kf_in; focus rfl) | (apply kf_out; focus rfl))) (by repeat (first | exact kl_nil | exact kl_rest (by assumption) rfl | (apply kl_in; focus rfl) | (apply kl_out; focus rfl))) ?_ ?_ ?_ ?_)
      · omega
      · exact ⟨by omega, by rw [hp2, hx2, List.find?_cons_of_neg (by simpa using h14)]⟩
      · exact ⟨rfl, trivial⟩
      · exact trivial
  · try simp only [decide_eq_true_eq, decide_eq_false_iff_not, Bool.or_eq_true, Bool.or_eq_false_iff, Bool.and_eq_true, Bool.and_eq_false_iff, Bool.not_eq_true', Bool.not_eq_false', Bool.not_eq_true, Bool.not_eq_false, Bool.not_true, Bool.not_false, Int.not_lt, Int.not_le, not_or, not_and, Classical.not_not] at h9
    refine T_exit_go (fun _ _ h => h) ?_
    refine T_seq ?_
    refine T_region ?_
    refine S_ 17 rfl rfl rfl _ (y_move rfl rfl) ?_
    refine S_ 2 rfl rfl rfl _ (y_assign rfl rfl) ?_
    refine S_go (fun _ _ h => h) ?_
    refine T_ret (fun a w hF hM => hRb a w (post1 rfl rfl (fun w hM => ?_) a w hF hM))
    exact ⟨by rw [hp2, hl.end (by omega)]; rfl, hM.below⟩
theorem pre1_any (s : List UInt8) (hs : s.length ≤ 1000000000) (w : World) : Calls Tryz.prog 198 #[str s] w fun e w' => e = .returned (.bool (ptNum s)) ∧ Below w.heap.size w w' := by
  refine enter_args (args := [str s]) (F := _) Tryz.func198 rfl Tryz.ntmps198 rfl rfl ?_
  intro Rb hRb hRn
  refine T_seq ?_
  refine T_region ?_
  refine S_ 2 rfl rfl rfl _ (y_assign rfl rfl) ?_
  refine S_go (fun _ _ h => h) ?_
  refine T_seq ?_
  refine T_region ?_
  refine S_ 3 rfl rfl rfl _ (y_move rfl rfl) ?_
  refine S_ 4 rfl rfl rfl _ (y_call rfl rfl rfl cf189 (fun _ w _ => allOfD_any s hs w)) ?_
  refine S_ 5 rfl rfl rfl _ (y_move rfl rfl) ?_
  refine Sg_ 6 rfl rfl rfl rfl rfl rfl _ (y_move rfl rfl) ?_
  refine Sg_ 7 rfl rfl rfl rfl rfl rfl _ (y_len_str rfl rfl Tryz.underlying9) ?_
  refine Sg_ 8 rfl rfl rfl rfl rfl rfl _ (y_bin rfl rfl rfl (fun _ => b_leq)) ?_
  refine S_ 9 rfl rfl rfl _ (y_and rfl rfl rfl) ?_
  refine S_ 2 rfl rfl rfl _ (y_assign rfl rfl) ?_
  refine S_go (fun _ _ h => h) ?_
  refine T_ret (fun a w hF hM => hRb a w (post1 rfl rfl (fun w hM => ?_) a w hF hM))
  exact ⟨rfl, hM.below⟩
theorem ptNum_dig {s : List UInt8} (h : ptNum s = true) : s ≠ [] ∧ s.length ≤ 6 ∧ ∀ c ∈ s, 48 ≤ c.toNat ∧ c.toNat ≤ 57 := by
  simp only [ptNum, Bool.and_eq_true, decide_eq_true_eq] at h
  have := allOf_dig h.1
  exact ⟨this.1, by omega, this.2⟩
theorem comparePre_any (x y : List UInt8) (hx : x.length ≤ 1000000000) (hy : y.length ≤ 1000000000) (w : World) : Calls Tryz.prog 99 #[str x, str y] w fun e w' => e = .returned (.int .i64 (cmpPart x y)) ∧ Below w.heap.size w w' := by
  refine enter_args (args := [str x, str y]) (F := _) Tryz.func99 rfl Tryz.ntmps99 rfl rfl ?_
  intro Rb hRb hRn
  refine T_seq ?_
  refine T_region ?_
  refine S_ 4 rfl rfl rfl _ (y_assign rfl rfl) ?_
  refine S_go (fun _ _ h => h) ?_
  refine T_seq ?_
  refine T_region ?_
  refine S_ 5 rfl rfl rfl _ (y_assign rfl rfl) ?_
  refine S_go (fun _ _ h => h) ?_
  refine T_seq ?_
  refine T_region ?_
  refine S_ 12 rfl rfl rfl _ (y_move rfl rfl) ?_
  refine S_ 13 rfl rfl rfl _ (y_move rfl rfl) ?_
  refine S_ 14 rfl rfl rfl _ (y_call rfl rfl rfl cf198 (fun _ w _ => pre1_any x hx w)) ?_
  refine S_ 15 rfl rfl rfl _ (y_move rfl rfl) ?_
  refine S_ 16 rfl rfl rfl _ (y_move rfl rfl) ?_
  refine S_ 17 rfl rfl rfl _ (y_call rfl rfl rfl cf198 (fun _ w _ => pre1_any y hy w)) ?_
  refine S_ 6 rfl rfl rfl _ (y_assign rfl rfl) ?_
  refine S_ 7 rfl rfl rfl _ (y_assign rfl rfl) ?_
  refine S_go (fun _ _ h => h) ?_
  refine T_seq ?_
  refine T_block ?_
  refine T_seq ?_
  refine T_region ?_
  refine S_ 19 rfl rfl rfl _ (y_move rfl rfl) ?_
  refine S_ 20 rfl rfl rfl _ (y_move rfl rfl) ?_
  refine Sg_ 21 rfl rfl rfl rfl rfl rfl _ (y_move rfl rfl) ?_
  refine S_ 22 rfl rfl rfl _ (y_and rfl rfl rfl) ?_
  refine S_ 18 rfl rfl rfl _ (y_assign rfl rfl) ?_
  refine S_go (fun _ _ h => h) ?_
  refine T_cond rfl (fun h18 => ?_) (fun h18 => ?_)
  · skip
    have hd1 := ptNum_dig (by simp only [Bool.and_eq_true] at h18; exact h18.1)
    have hd2 := ptNum_dig (by simp only [Bool.and_eq_true] at h18; exact h18.2)
    refine T_seq ?_
    refine T_region ?_
    refine S_ 24 rfl rfl rfl _ (y_move rfl rfl) ?_
    refine S_ 25 rfl rfl rfl _ (y_call rfl rfl rfl cf199 (fun _ w _ => Atoi_any x hd1.1 (by omega) hd1.2.2 w)) ?_
    refine S_ 23 rfl rfl rfl _ (y_move rfl rfl) ?_
    refine S_ 26 rfl rfl rfl _ (y_extract rfl rfl rfl) ?_
    refine S_ 27 rfl rfl rfl _ (y_extract rfl rfl rfl) ?_
    refine S_ 8 rfl rfl rfl _ (y_assign rfl rfl) ?_
    refine S_ 9 rfl rfl rfl _ (y_assign rfl rfl) ?_
    refine S_go (fun _ _ h => h) ?_
    refine T_seq ?_
    refine T_region ?_
    refine S_ 29 rfl rfl rfl _ (y_move rfl rfl) ?_
    refine S_ 30 rfl rfl rfl _ (y_call rfl rfl rfl cf199 (fun _ w _ => Atoi_any y hd2.1 (by omega) hd2.2.2 w)) ?_
    refine S_ 28 rfl rfl rfl _ (y_move rfl rfl) ?_
    refine S_ 31 rfl rfl rfl _ (y_extract rfl rfl rfl) ?_
    refine S_ 32 rfl rfl rfl _ (y_extract rfl rfl rfl) ?_
    refine S_ 10 rfl rfl rfl _ (y_assign rfl rfl) ?_
    refine S_ 11 rfl rfl rfl _ (y_assign rfl rfl) ?_
    refine S_go (fun _ _ h => h) ?_
    refine T_seq ?_
    refine T_region ?_
    refine S_ 33 rfl rfl rfl _ (y_move rfl rfl) ?_
    refine S_ 34 rfl rfl rfl _ (y_move rfl rfl) ?_
    refine S_ 35 rfl rfl rfl _ (y_call rfl rfl rfl cf97 (fun _ w _ => cmpJ_any _ _ w)) ?_
    refine S_ 4 rfl rfl rfl _ (y_assign rfl rfl) ?_
    refine S_go (fun _ _ h => h) ?_
    refine T_ret (fun a w hF hM => hRb a w (post1 rfl rfl (fun w hM => ?_) a w hF hM))
    exact ⟨by rw [cmpPart, if_pos h18], hM.below⟩
  · skip
    refine T_seq ?_
    refine T_region ?_
    refine S_ 37 rfl rfl rfl _ (y_move rfl rfl) ?_
    refine S_ 36 rfl rfl rfl _ (y_assign rfl rfl) ?_
    refine S_go (fun _ _ h => h) ?_
    refine T_cond rfl (fun h36 => ?_) (fun h36 => ?_)
    · skip
      refine T_seq ?_
      refine T_region ?_
      refine S_ 4 rfl rfl rfl _ (y_assign rfl rfl) ?_
      refine S_go (fun _ _ h => h) ?_
      refine T_ret (fun a w hF hM => hRb a w (post1 rfl rfl (fun w hM => ?_) a w hF hM))
      exact ⟨by rw [cmpPart, if_neg (by simp [h18]), if_pos h36], hM.below⟩
    · skip
      refine T_seq ?_
      refine T_region ?_
      refine S_ 39 rfl rfl rfl _ (y_move rfl rfl) ?_
      refine S_ 38 rfl rfl rfl _ (y_assign rfl rfl) ?_
      refine S_go (fun _ _ h => h) ?_
      refine T_cond rfl (fun h38 => ?_) (fun h38 => ?_)
      · skip
        refine T_seq ?_
        refine T_region ?_
        refine S_ 4 rfl rfl rfl _ (y_assign rfl rfl) ?_
        refine S_go (fun _ _ h => h) ?_
        refine T_ret (fun a w hF hM => hRb a w (post1 rfl rfl (fun w hM => ?_) a w hF hM))
        exact ⟨by rw [cmpPart, if_neg (by simp [h18]), if_neg (by simp [h36]), if_pos h38], hM.below⟩
      · skip
        refine T_skip_go (fun _ _ h => h) ?_
        refine T_seq ?_
        refine T_region ?_
        refine S_ 40 rfl rfl rfl _ (y_move rfl rfl) ?_
        refine S_ 41 rfl rfl rfl _ (y_move rfl rfl) ?_
        refine S_ 42 rfl rfl rfl _ (y_call rfl rfl rfl cf96 (fun _ w _ => cmpB_any _ _ w)) ?_
        refine S_ 4 rfl rfl rfl _ (y_assign rfl rfl) ?_
        refine S_go (fun _ _ h => h) ?_
        refine T_ret (fun a w hF hM => hRb a w (post1 rfl rfl (fun w hM => ?_) a w hF hM))
        exact ⟨by rw [cmpPart, if_neg (by simp [h18]), if_neg (by simp [h36]), if_neg (by simp [h38])], hM.below⟩
theorem CmpF_any (A B : Option Addr) (q c p d : Nat) (l m : List (List UInt8)) (w : World) (hl : SlT strE 1 w A q l) (hm : SlT strE 1 w B p m) (hq : q ≤ 1000000000) (hp : p ≤ 1000000000) (hln : ∀ s ∈ l, s.length ≤ 1000000000) (hmn : ∀ s ∈ m, s.length ≤ 1000000000) :
    Calls Tryz.prog 98 #[.slice A q c, .slice B p d, .func (.func 99) #[] #[]] w fun e w' => e = .returned (.int .i64 (cmpL cmpPart l m)) ∧ Below w.heap.size w w' := by
  have hlen := hl.len
  have hmen := hm.len
  refine enter_args (args := [.slice A q c, .slice B p d, .func (.func 99) #[] #[]]) (F := _) Tryz.func98 rfl Tryz.ntmps98 rfl rfl ?_
  intro Rb hRb hRn
  refine T_seq ?_
  refine T_region ?_
  refine S_ 6 rfl rfl rfl _ (y_assign rfl rfl) ?_
  refine S_go (fun _ _ h => h) ?_
  refine T_seq ?_
  refine T_seq ?_
  refine T_region ?_
  refine S_ 11 rfl rfl rfl _ (y_move rfl rfl) ?_
  refine S_ 12 rfl rfl rfl _ (y_len_slice rfl rfl Tryz.underlying40) ?_
  refine S_ 13 rfl rfl rfl _ (y_move rfl rfl) ?_
  refine S_go (fun _ _ h => h) ?_
  refine T_block ?_
  refine T_loopK1 (kf := [(6, 10), (13, 33)]) (kl := [(6, 10), (13, 33)]) (fun (i : Nat) => [(13, true, .int .i64 (i : Int))]) (fun (i : Nat) => []) (fun (i : Nat) => i ≤ q ∧ i ≤ p ∧ cmpL cmpPart l m = cmpL cmpPart (l.drop i) (m.drop i)) (fun (i : Nat) => q - i) 0 (by repeat (first | exact kf_nil | (apply kf_in; focus rfl) | (apply kf_out; focus rfl))) (by repeat (first | exact kl_nil | exact kl_rest (by assumption) rfl | (apply kl_in; focus rfl) | (apply kl_out; focus rfl))) ?_ ?_ ?_ ?_
  · exact ⟨by omega, by omega, rfl⟩
  · exact ⟨rfl, trivial⟩
  · exact trivial
  rintro i ⟨hp1, hp3, hp2⟩
  refine T_seq ?_
  refine T_region ?_
  refine S_ 14 rfl rfl rfl _ (y_bin rfl rfl rfl (fun _ => b_lss)) ?_
  refine S_go (fun _ _ h => h) ?_
  refine T_seq ?_
  refine T_cond rfl (fun h14 => ?_) (fun h14 => ?_)
  · try simp only [decide_eq_true_eq, decide_eq_false_iff_not, Bool.or_eq_true, Bool.or_eq_false_iff, Bool.and_eq_true, Bool.and_eq_false_iff, Bool.not_eq_true', Bool.not_eq_false', Bool.not_eq_true, Bool.not_eq_false, Bool.not_true, Bool.not_false, Int.not_lt, Int.not_le, not_or, not_and, Classical.not_not] at h14
    obtain ⟨x, hx1, hx2⟩ := hl.at (i := i) (by omega)
    refine T_skip_go (fun _ _ h => h) ?_
    refine T_seq ?_
    refine T_block ?_
    refine T_seq ?_
    refine T_region ?_
    refine S_ 15 rfl rfl rfl _ (y_move rfl rfl) ?_
    refine S_ 16 rfl rfl rfl _ (y_indexAddr rfl rfl rfl Tryz.underlying40 sz9 (fun hg => hl.isSome (by omega)) (fun _ => by omega)) ?_
    refine S_ 17 rfl rfl rfl _ (y_loadT1 (val := (fun l : List UInt8 => str l)) rfl rfl hl (fun _ => hx1) Tryz.underlying9 rfl) ?_
    refine S_ 7 rfl rfl rfl _ (y_assign rfl rfl) ?_
    refine S_ 8 rfl rfl rfl _ (y_assign rfl rfl) ?_
    refine S_go (fun _ _ h => h) ?_
    refine T_seq ?_
    refine T_seq ?_
    refine T_region ?_
    refine S_ 18 rfl rfl rfl _ (y_move rfl rfl) ?_
    refine S_ 19 rfl rfl rfl _ (y_move rfl rfl) ?_
    refine S_ 20 rfl rfl rfl _ (y_len_slice rfl rfl Tryz.underlying40) ?_
    refine S_ 21 rfl rfl rfl _ (y_bin rfl rfl rfl (fun _ => b_geq)) ?_
    refine S_go (fun _ _ h => h) ?_
    refine T_cond rfl (fun h21 => ?_) (fun h21 => ?_)
    · try simp only [decide_eq_true_eq, decide_eq_false_iff_not, Bool.or_eq_true, Bool.or_eq_false_iff, Bool.and_eq_true, Bool.and_eq_false_iff, Bool.not_eq_true', Bool.not_eq_false', Bool.not_eq_true, Bool.not_eq_false, Bool.not_true, Bool.not_false, Int.not_lt, Int.not_le, not_or, not_and, Classical.not_not] at h21
      refine T_seq ?_
      refine T_region ?_
      refine S_ 6 rfl rfl rfl _ (y_assign rfl rfl) ?_
      refine S_go (fun _ _ h => h) ?_
      refine T_ret (fun a w hF hM => hRb a w (post1 rfl rfl (fun w hM => ?_) a w hF hM))
      exact ⟨by rw [hp2, hx2, hm.end (by omega)]; rfl, hM.below⟩
    · try simp only [decide_eq_true_eq, decide_eq_false_iff_not, Bool.or_eq_true, Bool.or_eq_false_iff, Bool.and_eq_true, Bool.and_eq_false_iff, Bool.not_eq_true', Bool.not_eq_false', Bool.not_eq_true, Bool.not_eq_false, Bool.not_true, Bool.not_false, Int.not_lt, Int.not_le, not_or, not_and, Classical.not_not] at h21
      obtain ⟨y, hy1, hy2⟩ := hm.at (i := i) (by omega)
      refine T_skip_go (fun _ _ h => h) ?_
      refine T_seq ?_
      refine T_region ?_
      refine S_ 22 rfl rfl rfl _ (y_move rfl rfl) ?_
      refine S_ 23 rfl rfl rfl _ (y_move rfl rfl) ?_
      refine S_ 24 rfl rfl rfl _ (y_indexAddr rfl rfl rfl Tryz.underlying40 sz9 (fun hg => hm.isSome (by omega)) (fun _ => by omega)) ?_
      refine S_ 25 rfl rfl rfl _ (y_loadT1 (val := (fun l : List UInt8 => str l)) rfl rfl hm (fun _ => hy1) Tryz.underlying9 rfl) ?_
      refine S_ 9 rfl rfl rfl _ (y_assign rfl rfl) ?_
      refine S_go (fun _ _ h => h) ?_
      refine T_seq ?_
      refine T_region ?_
      refine S_ 26 rfl rfl rfl _ (y_move rfl rfl) ?_
      refine S_ 27 rfl rfl rfl _ (y_move rfl rfl) ?_
      refine S_ 28 rfl rfl rfl _ (y_move rfl rfl) ?_
      refine S_ 29 rfl rfl rfl _ (y_call rfl rfl rfl cf99 (fun _ w _ => comparePre_any x y (hln x (mem_at hx1)) (hmn y (mem_at hy1)) w)) ?_
      refine S_ 10 rfl rfl rfl _ (y_assign rfl rfl) ?_
      refine S_go (fun _ _ h => h) ?_
      refine T_seq ?_
      refine T_region ?_
      refine S_ 30 rfl rfl rfl _ (y_move rfl rfl) ?_
      refine S_ 31 rfl rfl rfl _ (y_bin rfl rfl rfl (fun _ => b_neq)) ?_
      refine S_go (fun _ _ h => h) ?_
      refine T_cond rfl (fun h31 => ?_) (fun h31 => ?_)
      · skip
        refine T_seq ?_
        refine T_region ?_
        refine S_ 32 rfl rfl rfl _ (y_move rfl rfl) ?_
        refine S_ 6 rfl rfl rfl _ (y_assign rfl rfl) ?_
        refine S_go (fun _ _ h => h) ?_
        refine T_ret (fun a w hF hM => hRb a w (post1 rfl rfl (fun w hM => ?_) a w hF hM))
        exact ⟨by rw [hp2, hx2, hy2, cmpL, if_pos (by simpa using h31)], hM.below⟩
      · skip
        refine T_skip_go (fun _ _ h => h) ?_
        refine T_region ?_
        refine S_ 33 rfl rfl rfl _ (y_bin rfl rfl rfl (fun hg => b_add (by omega))) ?_
        refine S_ 13 rfl rfl rfl _ (y_move rfl rfl) ?_
        refine S_nil (nextK1 (kf := [(6, 10), (13, 33)]) (kl := [(6, 10), (13, 33)]) (i + 1) (by repeat (first | exact kf_nil | (apply kf_in; focus rfl) | (apply kf_out; focus rfl))) (by repeat (first | exact kl_nil | exact kl_rest (by assumption) rfl | (apply kl_in; focus rfl) | (apply kl_out; focus rfl))) ?_ ?_ ?_ ?_)
        · omega
        · exact ⟨by omega, by omega, by rw [hp2, hx2, hy2, cmpL, if_neg (by simpa using h31)]⟩
        · exact ⟨rfl, trivial⟩
        · exact trivial
  · try simp only [decide_eq_true_eq, decide_eq_false_iff_not, Bool.or_eq_true, Bool.or_eq_false_iff, Bool.and_eq_true, Bool.and_eq_false_iff, Bool.not_eq_true', Bool.not_eq_false', Bool.not_eq_true, Bool.not_eq_false, Bool.not_true, Bool.not_false, Int.not_lt, Int.not_le, not_or, not_and, Classical.not_not] at h14
    refine T_exit_go (fun _ _ h => h) ?_
    refine T_seq ?_
    refine T_seq ?_
    refine T_region ?_
    refine S_ 34 rfl rfl rfl _ (y_move rfl rfl) ?_
    refine S_ 35 rfl rfl rfl _ (y_len_slice rfl rfl Tryz.underlying40) ?_
    refine S_ 36 rfl rfl rfl _ (y_move rfl rfl) ?_
    refine S_ 37 rfl rfl rfl _ (y_len_slice rfl rfl Tryz.underlying40) ?_
    refine S_ 38 rfl rfl rfl _ (y_bin rfl rfl rfl (fun _ => b_lss)) ?_
    refine S_go (fun _ _ h => h) ?_
    refine T_cond rfl (fun h38 => ?_) (fun h38 => ?_)
    · try simp only [decide_eq_true_eq, decide_eq_false_iff_not, Bool.or_eq_true, Bool.or_eq_false_iff, Bool.and_eq_true, Bool.and_eq_false_iff, Bool.not_eq_true', Bool.not_eq_false', Bool.not_eq_true, Bool.not_eq_false, Bool.not_true, Bool.not_false, Int.not_lt, Int.not_le, not_or, not_and, Classical.not_not] at h38
      refine T_seq ?_
      refine T_region ?_
      refine S_ 6 rfl rfl rfl _ (y_assign rfl rfl) ?_
      refine S_go (fun _ _ h => h) ?_
      refine T_ret (fun a w hF hM => hRb a w (post1 rfl rfl (fun w hM => ?_) a w hF hM))
      obtain ⟨y, hy1, hy2⟩ := hm.at (i := i) (by omega)
      exact ⟨by rw [hp2, hl.end (by omega), hy2]; rfl, hM.below⟩
    · try simp only [decide_eq_true_eq, decide_eq_false_iff_not, Bool.or_eq_true, Bool.or_eq_false_iff, Bool.and_eq_true, Bool.and_eq_false_iff, Bool.not_eq_true', Bool.not_eq_false', Bool.not_eq_true, Bool.not_eq_false, Bool.not_true, Bool.not_false, Int.not_lt, Int.not_le, not_or, not_and, Classical.not_not] at h38
      refine T_skip_go (fun _ _ h => h) ?_
      refine T_seq ?_
      refine T_region ?_
      refine S_ 6 rfl rfl rfl _ (y_assign rfl rfl) ?_
      refine S_go (fun _ _ h => h) ?_
      refine T_ret (fun a w hF hM => hRb a w (post1 rfl rfl (fun w hM => ?_) a w hF hM))
      exact ⟨by rw [hp2, hl.end (by omega), hm.end (by omega)]; rfl, hM.below⟩
theorem Compare_any (x y : SVer) (w : World) (hx : VerOk w x) (hy : VerOk w y) :
    Calls Tryz.prog 22 #[x.val, y.val] w fun e w' => e = .returned (.int .i64 (cmpV x.says y.says)) ∧ Below w.heap.size w w' := by
  have hxl := hx.ok.t.len
  have hyl := hy.ok.t.len
  have hxq := hx.q
  have hyq := hy.q
  have nil_iff : ∀ {l : List (List UInt8)} {q : Nat}, l.length = q → (l = [] ↔ (q : Int) = 0) := by
    intro l q h
    constructor
    · intro e; subst e; simp at h; omega
    · intro e; exact List.eq_nil_of_length_eq_zero (by omega)
  have hxn : x.says.pre = [] ↔ (x.pre.q : Int) = 0 := nil_iff hxl
  have hyn : y.says.pre = [] ↔ (y.pre.q : Int) = 0 := nil_iff hyl
  refine enter_args (args := [.agg #[str x.p, .int .i64 x.a, .int .i64 x.b, .int .i64 x.c, .slice x.pre.A x.pre.q x.pre.c], .agg #[str y.p, .int .i64 y.a, .int .i64 y.b, .int .i64 y.c, .slice y.pre.A y.pre.q y.pre.c]]) (F := _) Tryz.func22 rfl Tryz.ntmps22 rfl rfl ?_
  intro Rb hRb hRn
  refine T_seq ?_
  refine T_region ?_
  refine S_box 2 2 rfl rfl rfl rfl rfl ?_
  intro b2
  refine S_box 3 3 rfl rfl rfl rfl rfl ?_
  intro b3
  refine S_ 4 rfl rfl rfl _ (y_assign rfl rfl) ?_
  refine S_go (fun _ _ h => h) ?_
  refine T_seq ?_
  refine T_seq ?_
  refine T_drawsTail 20 (by kernel_rfl) (by kernel_rfl) ?_
  refine D_ 8 rfl rfl rfl _ (y_fieldAddr rfl rfl fa42_0) ?_
  refine D_ 9 rfl rfl rfl _ (y_load 2 rfl rfl rfl rfl Tryz.underlying9 rfl) ?_
  refine D_ 10 rfl rfl rfl _ (y_fieldAddr rfl rfl fa42_0) ?_
  refine D_ 11 rfl rfl rfl _ (y_load 3 rfl rfl rfl rfl Tryz.underlying9 rfl) ?_
  refine D_ 12 rfl rfl rfl _ (y_call rfl rfl rfl cf96 (fun _ w _ => cmpB_any _ _ w)) ?_
  refine D_ 13 rfl rfl rfl _ (y_fieldAddr rfl rfl fa42_1) ?_
  refine D_ 14 rfl rfl rfl _ (y_load 2 rfl rfl rfl rfl Tryz.underlying3 rfl) ?_
  refine D_ 15 rfl rfl rfl _ (y_fieldAddr rfl rfl fa42_1) ?_
  refine D_ 16 rfl rfl rfl _ (y_load 3 rfl rfl rfl rfl Tryz.underlying3 rfl) ?_
  refine D_ 17 rfl rfl rfl _ (y_call rfl rfl rfl cf97 (fun _ w _ => cmpJ_any _ _ w)) ?_
  refine D_ 18 rfl rfl rfl _ (y_fieldAddr rfl rfl fa42_2) ?_
  refine D_ 19 rfl rfl rfl _ (y_load 2 rfl rfl rfl rfl Tryz.underlying3 rfl) ?_
  refine D_ 20 rfl rfl rfl _ (y_fieldAddr rfl rfl fa42_2) ?_
  refine D_ 21 rfl rfl rfl _ (y_load 3 rfl rfl rfl rfl Tryz.underlying3 rfl) ?_
  refine D_ 22 rfl rfl rfl _ (y_call rfl rfl rfl cf97 (fun _ w _ => cmpJ_any _ _ w)) ?_
  refine D_ 23 rfl rfl rfl _ (y_fieldAddr rfl rfl fa42_3) ?_
  refine D_ 24 rfl rfl rfl _ (y_load 2 rfl rfl rfl rfl Tryz.underlying3 rfl) ?_
  refine D_ 25 rfl rfl rfl _ (y_fieldAddr rfl rfl fa42_3) ?_
  refine D_ 26 rfl rfl rfl _ (y_load 3 rfl rfl rfl rfl Tryz.underlying3 rfl) ?_
  refine D_ 27 rfl rfl rfl _ (y_call rfl rfl rfl cf97 (fun _ w _ => cmpJ_any _ _ w)) ?_
  refine D_tail ?_
  refine S_buildSlice 28 28 rfl rfl rfl rfl rfl Tryz.underlying142 inf3 rfl (by decide) (by decide) rfl rfl (by decide) rfl (_) rfl ?_
  intro b28
  refine S_ 29 rfl rfl rfl _ (y_as (v' := .int .i64 (headC x.says y.says)) (by exact rfl) (y_call rfl rfl rfl cf95 (fun _ w hM => or4_any _ _ (cmpB x.p y.p) (cmpJ x.a y.a) (cmpJ x.b y.b) (cmpJ x.c y.c) w ⟨own_reads hM (i := 28) rfl, rfl⟩))) ?_
  refine S_ 5 rfl rfl rfl _ (y_assign rfl rfl) ?_
  refine S_go (fun _ _ h => h) ?_
  refine T_seq ?_
  refine T_region ?_
  refine S_ 30 rfl rfl rfl _ (y_move rfl rfl) ?_
  refine S_ 31 rfl rfl rfl _ (y_bin rfl rfl rfl (fun _ => b_neq)) ?_
  refine S_go (fun _ _ h => h) ?_
  refine T_cond rfl (fun h31 => ?_) (fun h31 => ?_)
  · skip
    have h31 : headC x.says y.says ≠ 0 := by simpa using h31
    refine T_seq ?_
    refine T_region ?_
    refine S_ 32 rfl rfl rfl _ (y_move rfl rfl) ?_
    refine S_ 4 rfl rfl rfl _ (y_assign rfl rfl) ?_
    refine S_go (fun _ _ h => h) ?_
    refine T_ret (fun a w hF hM => hRb a w (post1 rfl rfl (fun w hM => ?_) a w hF hM))
    exact ⟨by rw [cmpV, if_pos h31], hM.below⟩
  · skip
    have h31 : ¬ headC x.says y.says ≠ 0 := by simpa using h31
    refine T_skip_go (fun _ _ h => h) ?_
    refine T_seq ?_
    refine T_seq ?_
    refine T_draws (by kernel_rfl) (by kernel_rfl) ?_
    refine D_ 33 rfl rfl rfl _ (y_fieldAddr rfl rfl fa42_4) ?_
    refine D_ 34 rfl rfl rfl _ (y_load 2 rfl rfl rfl rfl Tryz.underlying40 rfl) ?_
    refine D_ 35 rfl rfl rfl _ (y_len_slice rfl rfl Tryz.underlying40) ?_
    refine D_ 36 rfl rfl rfl _ (y_bin rfl rfl rfl (fun _ => b_eql)) ?_
    refine D_ 37 rfl rfl rfl _ (y_fieldAddr rfl rfl fa42_4) ?_
    refine D_ 38 rfl rfl rfl _ (y_load 3 rfl rfl rfl rfl Tryz.underlying40 rfl) ?_
    refine D_ 39 rfl rfl rfl _ (y_len_slice rfl rfl Tryz.underlying40) ?_
    refine D_ 40 rfl rfl rfl _ (y_bin rfl rfl rfl (fun _ => b_eql)) ?_
    refine D_ 6 rfl rfl rfl _ (y_assign rfl rfl) ?_
    refine D_ 7 rfl rfl rfl _ (y_assign rfl rfl) ?_
    refine D_go (fun _ _ h => h) ?_
    refine T_block ?_
    refine T_seq ?_
    refine T_region ?_
    refine S_ 42 rfl rfl rfl _ (y_move rfl rfl) ?_
    refine S_ 43 rfl rfl rfl _ (y_move rfl rfl) ?_
    refine Sg_ 44 rfl rfl rfl rfl rfl rfl _ (y_move rfl rfl) ?_
    refine S_ 45 rfl rfl rfl _ (y_and rfl rfl rfl) ?_
    refine S_ 41 rfl rfl rfl _ (y_assign rfl rfl) ?_
    refine S_go (fun _ _ h => h) ?_
    refine T_cond rfl (fun h41 => ?_) (fun h41 => ?_)
    · skip
      refine T_seq ?_
      refine T_region ?_
      refine S_ 4 rfl rfl rfl _ (y_assign rfl rfl) ?_
      refine S_go (fun _ _ h => h) ?_
      refine T_ret (fun a w hF hM => hRb a w (post1 rfl rfl (fun w hM => ?_) a w hF hM))
      simp only [Bool.and_eq_true, decide_eq_true_eq] at h41
      exact ⟨by rw [cmpV, if_neg h31, cmpPre, if_pos (hxn.2 h41.1), if_pos (hyn.2 h41.2)], hM.below⟩
    · skip
      refine T_seq ?_
      refine T_region ?_
      refine S_ 47 rfl rfl rfl _ (y_move rfl rfl) ?_
      refine S_ 46 rfl rfl rfl _ (y_assign rfl rfl) ?_
      refine S_go (fun _ _ h => h) ?_
      refine T_cond rfl (fun h46 => ?_) (fun h46 => ?_)
      · skip
        refine T_seq ?_
        refine T_region ?_
        refine S_ 4 rfl rfl rfl _ (y_assign rfl rfl) ?_
        refine S_go (fun _ _ h => h) ?_
        refine T_ret (fun a w hF hM => hRb a w (post1 rfl rfl (fun w hM => ?_) a w hF hM))
        simp only [Bool.and_eq_false_iff, decide_eq_false_iff_not] at h41
        simp only [decide_eq_true_eq] at h46
        exact ⟨by rw [cmpV, if_neg h31, cmpPre, if_pos (hxn.2 h46), if_neg (fun h => by have := hyn.1 h; omega)], hM.below⟩
      · skip
        refine T_seq ?_
        refine T_region ?_
        refine S_ 49 rfl rfl rfl _ (y_move rfl rfl) ?_
        refine S_ 48 rfl rfl rfl _ (y_assign rfl rfl) ?_
        refine S_go (fun _ _ h => h) ?_
        refine T_cond rfl (fun h48 => ?_) (fun h48 => ?_)
        · skip
          refine T_seq ?_
          refine T_region ?_
          refine S_ 4 rfl rfl rfl _ (y_assign rfl rfl) ?_
          refine S_go (fun _ _ h => h) ?_
          refine T_ret (fun a w hF hM => hRb a w (post1 rfl rfl (fun w hM => ?_) a w hF hM))
          simp only [decide_eq_false_iff_not] at h46
          simp only [decide_eq_true_eq] at h48
          exact ⟨by rw [cmpV, if_neg h31, cmpPre, if_neg (fun h => h46 (hxn.1 h)), if_pos (hyn.2 h48)], hM.below⟩
        · skip
          refine T_skip_go (fun _ _ h => h) ?_
          refine T_seq ?_
          refine T_region ?_
          refine S_ 50 rfl rfl rfl _ (y_fieldAddr rfl rfl fa42_4) ?_
          refine S_ 51 rfl rfl rfl _ (y_load 2 rfl rfl rfl rfl Tryz.underlying40 rfl) ?_
          refine S_ 52 rfl rfl rfl _ (y_fieldAddr rfl rfl fa42_4) ?_
          refine S_ 53 rfl rfl rfl _ (y_load 3 rfl rfl rfl rfl Tryz.underlying40 rfl) ?_
          refine S_ 54 rfl rfl rfl _ (y_call rfl rfl rfl cf98 (fun _ w hM => CmpF_any _ _ _ _ _ _ x.pre.l y.pre.l w (hx.ok.t.below hM.below) (hy.ok.t.below hM.below) hxq hyq hx.n hy.n)) ?_
          refine S_ 4 rfl rfl rfl _ (y_assign rfl rfl) ?_
          refine S_go (fun _ _ h => h) ?_
          refine T_ret (fun a w hF hM => hRb a w (post1 rfl rfl (fun w hM => ?_) a w hF hM))
          simp only [decide_eq_false_iff_not] at h46 h48
          exact ⟨by rw [cmpV, if_neg h31, cmpPre, if_neg (fun h => h46 (hxn.1 h)), if_neg (fun h => h48 (hyn.1 h))]; rfl, hM.below⟩
theorem routside_any (n lo hi : Int) (w : World) : Calls Tryz.prog 87 #[.int .i64 n, .int .i64 lo, .int .i64 hi] w fun e w' => e = .returned (.bool (outB n lo hi)) ∧ Below w.heap.size w w' := by
  refine enter_args (args := [.int .i64 n, .int .i64 lo, .int .i64 hi]) (F := _) Tryz.func87 rfl Tryz.ntmps87 rfl rfl ?_
  intro Rb hRb hRn
  refine T_seq ?_
  refine T_region ?_
  refine S_ 6 rfl rfl rfl _ (y_assign rfl rfl) ?_
  refine S_go (fun _ _ h => h) ?_
  refine T_seq ?_
  refine T_region ?_
  refine S_ 7 rfl rfl rfl _ (y_move rfl rfl) ?_
  refine S_ 8 rfl rfl rfl _ (y_move rfl rfl) ?_
  refine S_ 9 rfl rfl rfl _ (y_bin rfl rfl rfl (fun _ => b_lss)) ?_
  refine S_ 10 rfl rfl rfl _ (y_move rfl rfl) ?_
  refine Sg_ 11 rfl rfl rfl rfl rfl rfl _ (y_move rfl rfl) ?_
  refine Sg_ 12 rfl rfl rfl rfl rfl rfl _ (y_move rfl rfl) ?_
  refine Sg_ 13 rfl rfl rfl rfl rfl rfl _ (y_bin rfl rfl rfl (fun _ => b_gtr)) ?_
  refine S_ 14 rfl rfl rfl _ (y_or rfl rfl rfl) ?_
  refine S_ 6 rfl rfl rfl _ (y_assign rfl rfl) ?_
  refine S_go (fun _ _ h => h) ?_
  refine T_ret (fun a w hF hM => hRb a w (post1 rfl rfl (fun w hM => ?_) a w hF hM))
  exact ⟨rfl, hM.below⟩
theorem JoinD_any (A : Option Addr) (q c : Nat) (l : List (List UInt8)) (w : World) (hl : SlT strE 1 w A q l) (hq : 0 < q) (hcap : q ≤ c) (hlen : (Lib.join l [46]).length ≤ 140737488355328) (h47 : q ≤ 1000000) :
    Calls Tryz.prog 91 #[.slice A q c, str [46]] w fun e w' => e = .returned (str (Lib.join l [46])) ∧ Below w.heap.size w w' := by
  obtain ⟨ad, rfl, hlt, hc⟩ := hl.rd.2 hq
  obtain ⟨bk, o, sp⟩ := ad
  have hll := hl.len
  have hx : ∀ (j : Nat) (s : List UInt8), l[j]? = some s → w.cell? ((⟨bk, o, sp⟩ : Addr).add j) = some (str s) := fun j s hj => hc j (str s) (by rw [strs_flat, List.getElem?_map, hj]; rfl)
  have hsp : sp = none := by
    obtain ⟨s, hs⟩ : ∃ s, l[0]? = some s := ⟨_, List.getElem?_eq_getElem (by omega)⟩
    have h := hx 0 s hs
    cases sp with
    | none => rfl
    | some k =>
      rw [show (⟨bk, o, some k⟩ : Addr).add 0 = ⟨bk, o, some k⟩ from rfl] at h
      unfold World.cell? at h
      split at h
      · simp at h
      · cases h
  subst hsp
  have hm : (l.map fun s => (⟨s.toArray⟩ : ByteArray)).map (·.data.toList) = l := by rw [List.map_map]; exact (List.map_congr_left fun s _ => rfl).trans (List.map_id l)
  have h := Any.strings_Join Tryz.lays156 Tryz.Builder_Extra_156 bk o c (l.map fun s => ⟨s.toArray⟩) ⟨#[46]⟩ w (fun j x hj => by
      rw [List.getElem?_map] at hj
      obtain ⟨s, hs, rfl⟩ := Option.map_eq_some_iff.1 hj
      have := hx j s hs
      rwa [show (⟨bk, o, none⟩ : Addr).add j = ⟨bk, o + j, none⟩ from by unfold Addr.add; split <;> simp_all] at this) hlt (by rw [List.length_map]; omega) (by rw [List.length_map]; omega) (by rw [hm]; exact hlen)
  rw [hm, List.length_map, hll] at h
  exact h
theorem lensB_le {n : Nat} : ∀ l : List (List UInt8), (∀ s ∈ l, s.length ≤ n) → Lib.lens l ≤ n * l.length
  | [], _ => by simp [Lib.lens]
  | a :: r, h => by
    have h1 := h a (List.mem_cons_self ..)
    have h2 := lensB_le r fun s hs => h s (List.mem_cons_of_mem _ hs)
    have h3 : Lib.lens (a :: r) = a.length + Lib.lens r := by simp [Lib.lens]
    rw [h3, List.length_cons, Nat.mul_succ]; omega
theorem joinB_le {n : Nat} (c : UInt8) (l : List (List UInt8)) (h : ∀ s ∈ l, s.length ≤ n) : (Lib.join l [c]).length ≤ (n + 1) * l.length := by
  cases l with
  | nil => simp [Lib.join_nil]
  | cons a r =>
    have := lensB_le (a :: r) h
    rw [Lib.join_length]
    simp only [List.length_cons, List.length_nil] at this ⊢
    have e : (n + 1) * (r.length + 1) = n * (r.length + 1) + (r.length + 1) := Nat.succ_mul _ _
    rw [e]; omega
theorem proj_le {s : List UInt8} (h : projOk s = true) : s.length ≤ 40 := (name_iff.1 (proj_name h)).2.1
theorem Text_any (v : SVer) (w : World) (hv : VerOk w v) (hP : P10 w) :
    Calls Tryz.prog 19 #[v.val] w fun e w' => e = .returned (.tuple #[str (txtR v.says).1, .int .i64 (txtR v.says).2]) ∧ Below w.heap.size w w' := by
  have hlen := hv.ok.t.len
  have hq := hv.q
  have hia := Lib.itoa_length_le v.a hv.a.1 hv.a.2
  have hib := Lib.itoa_length_le v.b hv.b.1 hv.b.2
  have hic := Lib.itoa_length_le v.c hv.c.1 hv.c.2
  refine enter_args (args := [.agg #[str v.p, .int .i64 v.a, .int .i64 v.b, .int .i64 v.c, .slice v.pre.A v.pre.q v.pre.c]]) (F := _) Tryz.func19 rfl Tryz.ntmps19 rfl rfl ?_
  intro Rb hRb hRn
  refine T_seq ?_
  refine T_region ?_
  refine S_box 1 1 rfl rfl rfl rfl rfl ?_
  intro b1
  refine S_ 2 rfl rfl rfl _ (y_assign rfl rfl) ?_
  refine S_ 3 rfl rfl rfl _ (y_assign rfl rfl) ?_
  refine S_go (fun _ _ h => h) ?_
  refine T_seq ?_
  refine T_block ?_
  refine T_seq ?_
  refine T_region ?_
  refine S_ 6 rfl rfl rfl _ (y_fieldAddr rfl rfl fa42_0) ?_
  refine S_ 7 rfl rfl rfl _ (y_load 1 rfl rfl rfl rfl Tryz.underlying9 rfl) ?_
  refine S_ 8 rfl rfl rfl _ (y_call rfl rfl rfl cf86 (fun _ w _ => IsProject_any v.p w)) ?_
  refine S_ 9 rfl rfl rfl _ (y_not rfl rfl) ?_
  refine S_ 5 rfl rfl rfl _ (y_assign rfl rfl) ?_
  refine S_go (fun _ _ h => h) ?_
  refine T_cond rfl (fun h5 => ?_) (fun h5 => ?_)
  · skip
    have h5 : projOk v.says.p = false := by show projOk v.p = false; simpa using h5
    refine T_seq ?_
    refine T_region ?_
    refine S_ 2 rfl rfl rfl _ (y_assign rfl rfl) ?_
    refine S_ 3 rfl rfl rfl _ (y_assign rfl rfl) ?_
    refine S_go (fun _ _ h => h) ?_
    refine T_ret (fun a w hF hM => hRb a w (post2 rfl rfl rfl (fun w hM => ?_) a w hF hM))
    exact ⟨by rw [txtR, if_pos h5], hM.below⟩
  · skip
    have h5 : projOk v.p = true := by simpa using h5
    have hpl := proj_le h5
    refine T_seq ?_
    refine T_region ?_
    refine S_ 11 rfl rfl rfl _ (y_fieldAddr rfl rfl fa42_1) ?_
    refine S_ 12 rfl rfl rfl _ (y_load 1 rfl rfl rfl rfl Tryz.underlying3 rfl) ?_
    refine S_ 13 rfl rfl rfl _ (y_call rfl rfl rfl cf87 (fun _ w _ => routside_any _ _ _ w)) ?_
    refine S_ 14 rfl rfl rfl _ (y_move rfl rfl) ?_
    refine Sg_ 15 rfl rfl rfl rfl rfl rfl _ (y_fieldAddr rfl rfl fa42_2) ?_
    refine Sg_ 16 rfl rfl rfl rfl rfl rfl _ (y_load 1 rfl rfl rfl rfl Tryz.underlying3 rfl) ?_
    refine Sg_ 17 rfl rfl rfl rfl rfl rfl _ (y_call rfl rfl rfl cf87 (fun _ w _ => routside_any _ _ _ w)) ?_
    refine S_ 18 rfl rfl rfl _ (y_or rfl rfl rfl) ?_
    refine S_ 19 rfl rfl rfl _ (y_move rfl rfl) ?_
    refine Sg_ 20 rfl rfl rfl rfl rfl rfl _ (y_fieldAddr rfl rfl fa42_3) ?_
    refine Sg_ 21 rfl rfl rfl rfl rfl rfl _ (y_load 1 rfl rfl rfl rfl Tryz.underlying3 rfl) ?_
    refine Sg_ 22 rfl rfl rfl rfl rfl rfl _ (y_call rfl rfl rfl cf87 (fun _ w _ => routside_any _ _ _ w)) ?_
    refine S_ 23 rfl rfl rfl _ (y_or rfl rfl rfl) ?_
    refine S_ 10 rfl rfl rfl _ (y_assign rfl rfl) ?_
    refine S_go (fun _ _ h => h) ?_
    refine T_cond rfl (fun h10 => ?_) (fun h10 => ?_)
    · skip
      refine T_seq ?_
      refine T_region ?_
      refine S_ 2 rfl rfl rfl _ (y_assign rfl rfl) ?_
      refine S_ 3 rfl rfl rfl _ (y_assign rfl rfl) ?_
      refine S_go (fun _ _ h => h) ?_
      refine T_ret (fun a w hF hM => hRb a w (post2 rfl rfl rfl (fun w hM => ?_) a w hF hM))
      exact ⟨by rw [txtR, if_neg (by simp [SVer.says, h5]), if_pos (show (outB v.says.a 0 999999 || outB v.says.b 0 999999 || outB v.says.c 0 999999) = true from h10)], hM.below⟩
    · skip
      refine T_seq ?_
      refine T_region ?_
      refine S_ 25 rfl rfl rfl _ (y_fieldAddr rfl rfl fa42_4) ?_
      refine S_ 26 rfl rfl rfl _ (y_load 1 rfl rfl rfl rfl Tryz.underlying40 rfl) ?_
      refine S_ 27 rfl rfl rfl _ (y_len_slice rfl rfl Tryz.underlying40) ?_
      refine S_ 28 rfl rfl rfl _ (y_bin rfl rfl rfl (fun _ => b_gtr)) ?_
      refine S_ 24 rfl rfl rfl _ (y_assign rfl rfl) ?_
      refine S_go (fun _ _ h => h) ?_
      refine T_cond rfl (fun h24 => ?_) (fun h24 => ?_)
      · try simp only [decide_eq_true_eq, decide_eq_false_iff_not, Bool.or_eq_true, Bool.or_eq_false_iff, Bool.and_eq_true, Bool.and_eq_false_iff, Bool.not_eq_true', Bool.not_eq_false', Bool.not_eq_true, Bool.not_eq_false, Bool.not_true, Bool.not_false, Int.not_lt, Int.not_le, not_or, not_and, Classical.not_not] at h24
        refine T_seq ?_
        refine T_region ?_
        refine S_ 2 rfl rfl rfl _ (y_assign rfl rfl) ?_
        refine S_ 3 rfl rfl rfl _ (y_assign rfl rfl) ?_
        refine S_go (fun _ _ h => h) ?_
        refine T_ret (fun a w hF hM => hRb a w (post2 rfl rfl rfl (fun w hM => ?_) a w hF hM))
        exact ⟨by rw [txtR, if_neg (by simp [SVer.says, h5]), if_neg (by rw [show (outB v.says.a 0 999999 || outB v.says.b 0 999999 || outB v.says.c 0 999999) = false from h10]; exact Bool.false_ne_true), if_pos (by show (5 : Int) < v.pre.l.length; omega)], hM.below⟩
      · try simp only [decide_eq_true_eq, decide_eq_false_iff_not, Bool.or_eq_true, Bool.or_eq_false_iff, Bool.and_eq_true, Bool.and_eq_false_iff, Bool.not_eq_true', Bool.not_eq_false', Bool.not_eq_true, Bool.not_eq_false, Bool.not_true, Bool.not_false, Int.not_lt, Int.not_le, not_or, not_and, Classical.not_not] at h24
        have hjl := joinB_le (n := 1000000000) 46 v.pre.l hv.n
        have hjl : (Lib.join v.pre.l [46]).length ≤ 1000000001 * 5 := Nat.le_trans hjl (Nat.mul_le_mul_left _ (by omega))
        refine T_seq ?_
        refine T_region ?_
        refine S_ 30 rfl rfl rfl _ (y_fieldAddr rfl rfl fa42_4) ?_
        refine S_ 31 rfl rfl rfl _ (y_load 1 rfl rfl rfl rfl Tryz.underlying40 rfl) ?_
        refine S_ 32 rfl rfl rfl _ (y_call rfl rfl rfl cf38 (fun _ w hM => ContFS_any _ _ _ v.pre.l _ _ (fun p => !isPreB p) w (hv.ok.t.below hM.below) (by omega) cf88 fun x hx w1 _ => Text1_any x (hv.n x hx) w1)) ?_
        refine S_ 29 rfl rfl rfl _ (y_assign rfl rfl) ?_
        refine S_go (fun _ _ h => h) ?_
        refine T_cond rfl (fun h29 => ?_) (fun h29 => ?_)
        · skip
          refine T_seq ?_
          refine T_region ?_
          refine S_ 2 rfl rfl rfl _ (y_assign rfl rfl) ?_
          refine S_ 3 rfl rfl rfl _ (y_assign rfl rfl) ?_
          refine S_go (fun _ _ h => h) ?_
          refine T_ret (fun a w hF hM => hRb a w (post2 rfl rfl rfl (fun w hM => ?_) a w hF hM))
          exact ⟨by rw [txtR, if_neg (by simp [SVer.says, h5]), if_neg (by rw [show (outB v.says.a 0 999999 || outB v.says.b 0 999999 || outB v.says.c 0 999999) = false from h10]; exact Bool.false_ne_true), if_neg (by show ¬ (5 : Int) < v.pre.l.length; omega), if_pos (show badPre v.says.pre = true from h29)], hM.below⟩
        · skip
          refine T_skip_go (fun _ _ h => h) ?_
          refine T_seq ?_
          refine T_draws (by kernel_rfl) (by kernel_rfl) ?_
          refine D_ 33 rfl rfl rfl _ (y_fieldAddr rfl rfl fa42_0) ?_
          refine D_ 34 rfl rfl rfl _ (y_load 1 rfl rfl rfl rfl Tryz.underlying9 rfl) ?_
          refine D_ 35 rfl rfl rfl _ (y_bin rfl rfl rfl (fun hg => b_adds (by first | omega | (simp only [List.length_append, List.length_cons, List.length_nil]; omega)))) ?_
          refine D_ 36 rfl rfl rfl _ (y_fieldAddr rfl rfl fa42_1) ?_
          refine D_ 37 rfl rfl rfl _ (y_load 1 rfl rfl rfl rfl Tryz.underlying3 rfl) ?_
          refine D_ 38 rfl rfl rfl _ (y_call rfl rfl rfl cf90 (fun _ w hM => Itoa_any v.a hv.a.1 hv.a.2 w (hP.below hM.below))) ?_
          refine D_ 39 rfl rfl rfl _ (y_bin rfl rfl rfl (fun hg => b_adds (by first | omega | (simp only [List.length_append, List.length_cons, List.length_nil]; omega)))) ?_
          refine D_ 40 rfl rfl rfl _ (y_bin rfl rfl rfl (fun hg => b_adds (by first | omega | (simp only [List.length_append, List.length_cons, List.length_nil]; omega)))) ?_
          refine D_ 41 rfl rfl rfl _ (y_fieldAddr rfl rfl fa42_2) ?_
          refine D_ 42 rfl rfl rfl _ (y_load 1 rfl rfl rfl rfl Tryz.underlying3 rfl) ?_
          refine D_ 43 rfl rfl rfl _ (y_call rfl rfl rfl cf90 (fun _ w hM => Itoa_any v.b hv.b.1 hv.b.2 w (hP.below hM.below))) ?_
          refine D_ 44 rfl rfl rfl _ (y_bin rfl rfl rfl (fun hg => b_adds (by first | omega | (simp only [List.length_append, List.length_cons, List.length_nil]; omega)))) ?_
          refine D_ 45 rfl rfl rfl _ (y_bin rfl rfl rfl (fun hg => b_adds (by first | omega | (simp only [List.length_append, List.length_cons, List.length_nil]; omega)))) ?_
          refine D_ 46 rfl rfl rfl _ (y_fieldAddr rfl rfl fa42_3) ?_
          refine D_ 47 rfl rfl rfl _ (y_load 1 rfl rfl rfl rfl Tryz.underlying3 rfl) ?_
          refine D_ 48 rfl rfl rfl _ (y_call rfl rfl rfl cf90 (fun _ w hM => Itoa_any v.c hv.c.1 hv.c.2 w (hP.below hM.below))) ?_
          refine D_ 49 rfl rfl rfl _ (y_bin rfl rfl rfl (fun hg => b_adds (by first | omega | (simp only [List.length_append, List.length_cons, List.length_nil]; omega)))) ?_
          refine D_ 4 rfl rfl rfl _ (y_assign rfl rfl) ?_
          refine D_go (fun _ _ h => h) ?_
          refine T_seq ?_
          refine T_seq ?_
          refine T_region ?_
          refine S_ 50 rfl rfl rfl _ (y_fieldAddr rfl rfl fa42_4) ?_
          refine S_ 51 rfl rfl rfl _ (y_load 1 rfl rfl rfl rfl Tryz.underlying40 rfl) ?_
          refine S_ 52 rfl rfl rfl _ (y_len_slice rfl rfl Tryz.underlying40) ?_
          refine S_ 53 rfl rfl rfl _ (y_bin rfl rfl rfl (fun _ => b_gtr)) ?_
          refine S_go (fun _ _ h => h) ?_
          refine T_cond rfl (fun h53 => ?_) (fun h53 => ?_)
          · try simp only [decide_eq_true_eq, decide_eq_false_iff_not, Bool.or_eq_true, Bool.or_eq_false_iff, Bool.and_eq_true, Bool.and_eq_false_iff, Bool.not_eq_true', Bool.not_eq_false', Bool.not_eq_true, Bool.not_eq_false, Bool.not_true, Bool.not_false, Int.not_lt, Int.not_le, not_or, not_and, Classical.not_not] at h53
            have hne : ¬ v.pre.l = [] := fun e => by rw [e] at hlen; simp at hlen; omega
            refine T_region ?_
            refine S_ 54 rfl rfl rfl _ (y_move rfl rfl) ?_
            refine S_ 55 rfl rfl rfl _ (y_fieldAddr rfl rfl fa42_4) ?_
            refine S_ 56 rfl rfl rfl _ (y_load 1 rfl rfl rfl rfl Tryz.underlying40 rfl) ?_
            refine S_ 57 rfl rfl rfl _ (y_call rfl rfl rfl cf91 (fun _ w hM => JoinD_any _ _ _ v.pre.l w (hv.ok.t.below hM.below) (by omega) hv.ok.cap (by omega) (by omega))) ?_
            refine S_ 58 rfl rfl rfl _ (y_bin rfl rfl rfl (fun hg => b_adds (by first | omega | (simp only [List.length_append, List.length_cons, List.length_nil]; omega)))) ?_
            refine S_ 59 rfl rfl rfl _ (y_as (v' := str (verT v.says)) (by rw [verT, if_neg (show ¬ v.says.pre = [] from hne)]; rfl) (y_bin rfl rfl rfl (fun hg => b_adds (by first | omega | (simp only [List.length_append, List.length_cons, List.length_nil]; omega))))) ?_
            refine S_ 4 rfl rfl rfl _ (y_assign rfl rfl) ?_
            refine S_go (fun _ _ h => h) ?_
            refine T_seq ?_
            refine T_seq ?_
            refine T_region ?_
            refine S_ 60 rfl rfl rfl _ (y_as (v' := str (verT v.says)) (by exact rfl) (y_move rfl rfl)) ?_
            refine S_ 61 rfl rfl rfl _ (y_len_str rfl rfl Tryz.underlying9) ?_
            refine S_ 62 rfl rfl rfl _ (y_bin rfl rfl rfl (fun _ => b_gtr)) ?_
            refine S_go (fun _ _ h => h) ?_
            refine T_cond rfl (fun h62 => ?_) (fun h62 => ?_)
            · try simp only [decide_eq_true_eq, decide_eq_false_iff_not, Bool.or_eq_true, Bool.or_eq_false_iff, Bool.and_eq_true, Bool.and_eq_false_iff, Bool.not_eq_true', Bool.not_eq_false', Bool.not_eq_true, Bool.not_eq_false, Bool.not_true, Bool.not_false, Int.not_lt, Int.not_le, not_or, not_and, Classical.not_not] at h62
              refine T_seq ?_
              refine T_region ?_
              refine S_ 2 rfl rfl rfl _ (y_assign rfl rfl) ?_
              refine S_ 3 rfl rfl rfl _ (y_assign rfl rfl) ?_
              refine S_go (fun _ _ h => h) ?_
              refine T_ret (fun a w hF hM => hRb a w (post2 rfl rfl rfl (fun w hM => ?_) a w hF hM))
              exact ⟨by rw [txtR, if_neg (by simp [SVer.says, h5]), if_neg (by rw [show (outB v.says.a 0 999999 || outB v.says.b 0 999999 || outB v.says.c 0 999999) = false from h10]; exact Bool.false_ne_true), if_neg (by show ¬ (5 : Int) < v.pre.l.length; omega), if_neg (by rw [show badPre v.says.pre = false from h29]; exact Bool.false_ne_true), if_pos (by omega)], hM.below⟩
            · try simp only [decide_eq_true_eq, decide_eq_false_iff_not, Bool.or_eq_true, Bool.or_eq_false_iff, Bool.and_eq_true, Bool.and_eq_false_iff, Bool.not_eq_true', Bool.not_eq_false', Bool.not_eq_true, Bool.not_eq_false, Bool.not_true, Bool.not_false, Int.not_lt, Int.not_le, not_or, not_and, Classical.not_not] at h62
              refine T_skip_go (fun _ _ h => h) ?_
              refine T_seq ?_
              refine T_region ?_
              refine S_ 63 rfl rfl rfl _ (y_as (v' := str (verT v.says)) (by exact rfl) (y_move rfl rfl)) ?_
              refine S_ 2 rfl rfl rfl _ (y_assign rfl rfl) ?_
              refine S_ 3 rfl rfl rfl _ (y_assign rfl rfl) ?_
              refine S_go (fun _ _ h => h) ?_
              refine T_ret (fun a w hF hM => hRb a w (post2 rfl rfl rfl (fun w hM => ?_) a w hF hM))
              exact ⟨by rw [txtR, if_neg (by simp [SVer.says, h5]), if_neg (by rw [show (outB v.says.a 0 999999 || outB v.says.b 0 999999 || outB v.says.c 0 999999) = false from h10]; exact Bool.false_ne_true), if_neg (by show ¬ (5 : Int) < v.pre.l.length; omega), if_neg (by rw [show badPre v.says.pre = false from h29]; exact Bool.false_ne_true), if_neg (by omega)], hM.below⟩
          · try simp only [decide_eq_true_eq, decide_eq_false_iff_not, Bool.or_eq_true, Bool.or_eq_false_iff, Bool.and_eq_true, Bool.and_eq_false_iff, Bool.not_eq_true', Bool.not_eq_false', Bool.not_eq_true, Bool.not_eq_false, Bool.not_true, Bool.not_false, Int.not_lt, Int.not_le, not_or, not_and, Classical.not_not] at h53
            have hne : v.pre.l = [] := List.eq_nil_of_length_eq_zero (by omega)
            refine T_skip_go (fun _ _ h => h) ?_
            refine T_seq ?_
            refine T_seq ?_
            refine T_region ?_
            refine S_ 60 rfl rfl rfl _ (y_as (v' := str (verT v.says)) (by rw [verT, if_pos (show v.says.pre = [] from hne), List.append_nil]; rfl) (y_move rfl rfl)) ?_
            refine S_ 61 rfl rfl rfl _ (y_len_str rfl rfl Tryz.underlying9) ?_
            refine S_ 62 rfl rfl rfl _ (y_bin rfl rfl rfl (fun _ => b_gtr)) ?_
            refine S_go (fun _ _ h => h) ?_
            refine T_cond rfl (fun h62 => ?_) (fun h62 => ?_)
            · try simp only [decide_eq_true_eq, decide_eq_false_iff_not, Bool.or_eq_true, Bool.or_eq_false_iff, Bool.and_eq_true, Bool.and_eq_false_iff, Bool.not_eq_true', Bool.not_eq_false', Bool.not_eq_true, Bool.not_eq_false, Bool.not_true, Bool.not_false, Int.not_lt, Int.not_le, not_or, not_and, Classical.not_not] at h62
              refine T_seq ?_
              refine T_region ?_
              refine S_ 2 rfl rfl rfl _ (y_assign rfl rfl) ?_
              refine S_ 3 rfl rfl rfl _ (y_assign rfl rfl) ?_
              refine S_go (fun _ _ h => h) ?_
              refine T_ret (fun a w hF hM => hRb a w (post2 rfl rfl rfl (fun w hM => ?_) a w hF hM))
              exact ⟨by rw [txtR, if_neg (by simp [SVer.says, h5]), if_neg (by rw [show (outB v.says.a 0 999999 || outB v.says.b 0 999999 || outB v.says.c 0 999999) = false from h10]; exact Bool.false_ne_true), if_neg (by show ¬ (5 : Int) < v.pre.l.length; omega), if_neg (by rw [show badPre v.says.pre = false from h29]; exact Bool.false_ne_true), if_pos (by omega)], hM.below⟩
            · try simp only [decide_eq_true_eq, decide_eq_false_iff_not, Bool.or_eq_true, Bool.or_eq_false_iff, Bool.and_eq_true, Bool.and_eq_false_iff, Bool.not_eq_true', Bool.not_eq_false', Bool.not_eq_true, Bool.not_eq_false, Bool.not_true, Bool.not_false, Int.not_lt, Int.not_le, not_or, not_and, Classical.not_not] at h62
              refine T_skip_go (fun _ _ h => h) ?_
              refine T_seq ?_
              refine T_region ?_
              refine S_ 63 rfl rfl rfl _ (y_as (v' := str (verT v.says)) (by rw [verT, if_pos (show v.says.pre = [] from hne), List.append_nil]; rfl) (y_move rfl rfl)) ?_
              refine S_ 2 rfl rfl rfl _ (y_assign rfl rfl) ?_
              refine S_ 3 rfl rfl rfl _ (y_assign rfl rfl) ?_
              refine S_go (fun _ _ h => h) ?_
              refine T_ret (fun a w hF hM => hRb a w (post2 rfl rfl rfl (fun w hM => ?_) a w hF hM))
              exact ⟨by rw [txtR, if_neg (by simp [SVer.says, h5]), if_neg (by rw [show (outB v.says.a 0 999999 || outB v.says.b 0 999999 || outB v.says.c 0 999999) = false from h10]; exact Bool.false_ne_true), if_neg (by show ¬ (5 : Int) < v.pre.l.length; omega), if_neg (by rw [show badPre v.says.pre = false from h29]; exact Bool.false_ne_true), if_neg (by omega)], hM.below⟩
/-! ### What parse makes, as it lies -/
def svr (p : PVer) (A : Option Addr) (c : Nat) : SVer := ⟨p.p, p.a, p.b, p.c, ⟨A, p.pre.length, c, p.pre⟩⟩
theorem svr_says (p : PVer) (A : Option Addr) (c : Nat) : (svr p A c).says = p := rfl
structure PBound (p : PVer) : Prop where
  n : p.pre.length ≤ 41
  s : ∀ s ∈ p.pre, s.length ≤ 40
  r : p.p.length ≤ 40
  a : 0 ≤ p.a ∧ p.a ≤ 999999
  b : 0 ≤ p.b ∧ p.b ≤ 999999
  c : 0 ≤ p.c ∧ p.c ≤ 999999
theorem pver0_bound : PBound pver0 := ⟨Nat.zero_le _, fun s h => (by cases h), Nat.zero_le _, ⟨Int.le_refl _, by decide⟩, ⟨Int.le_refl _, by decide⟩, ⟨Int.le_refl _, by decide⟩⟩
theorem verV_bound {s : List UInt8} (h : s.length ≤ 40) : PBound (verV s) := by
  have hr : (rsS s).length ≤ 40 := by rw [rsS, List.length_drop]; omega
  have hc := cut_le 45 (rsS s)
  have hn : ∀ w, 0 ≤ numI w ∧ numI w ≤ 999999 := by
    intro w
    unfold numI
    split
    · rename_i hw
      have := (numOk_val hw).2
      omega
    · omega
  refine ⟨?_, fun x hx => ?_, by show (prS s).length ≤ 40; rw [prS, List.length_take]; omega, hn _, hn _, hn _⟩
  · show (preS s).length ≤ 41
    unfold preS
    split
    · exact split_len40 (by omega)
    · exact Nat.zero_le _
  · have hx : x ∈ preS s := hx
    unfold preS at hx
    split at hx
    · have := spl_le 46 _ x hx; omega
    · cases hx
theorem parseR_bound (s : List UInt8) : PBound (parseR s).1 := by
  unfold parseR
  split
  · exact pver0_bound
  · rename_i h
    simp only [Bool.or_eq_true, decide_eq_true_eq, not_or] at h
    split
    · exact pver0_bound
    · split
      · exact pver0_bound
      · exact verV_bound (by omega)
theorem rel_len {s : List UInt8} (h : relOk s = true) : s.length ≤ 40 := ((parse_iff s).1 h).2.1
theorem parE_bound (s : List UInt8) : PBound (parE s).1 := by
  unfold parE
  split
  · rename_i h; exact verV_bound (rel_len h)
  · exact pver0_bound
theorem svr_ok {w : World} {p : PVer} {A : Option Addr} {c : Nat} (hp : PBound p) (h : Sl.Ok strE 1 w ⟨A, p.pre.length, c, p.pre⟩) : VerOk w (svr p A c) := by
  have h1 := hp.a
  have h2 := hp.b
  have h3 := hp.c
  exact ⟨h, Nat.le_trans hp.n (by decide), fun s hs => Nat.le_trans (hp.s s hs) (by decide), Nat.le_trans hp.r (by decide), by show _ ≤ p.a ∧ p.a ≤ _; omega, by show _ ≤ p.b ∧ p.b ≤ _; omega, by show _ ≤ p.c ∧ p.c ≤ _; omega⟩
end Go.Proofs.YtpmlgnbbkpplhaaGreatDoor
