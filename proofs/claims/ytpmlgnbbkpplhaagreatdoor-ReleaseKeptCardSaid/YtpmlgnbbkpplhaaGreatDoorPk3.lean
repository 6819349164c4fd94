/- Part 3, merged by a program. Compare, walked, and versions as they lie in memory. Conditions: those of each theorem. The reference's VersionOf, VersionText, VersionsCompare, SameVersion, walked. Conditions: those of each theorem. strings.Builder: what its methods do to a builder that the caller has made. Conditions: those of each theorem. parseAll, ContainsFunc at versions, and what the reference says of a list of releases, walked. Conditions: those of each theorem. States of groups: CheckState and StateFault, comesBack and after, resolvedAgain and SeenState, walked. Conditions: those of each theorem. resolvedAgain, SeenState and Seen, and the law ReleaseSeen, walked. Conditions: those of each theorem. Seen, and the laws ReleaseSeen and ReleaseKept, walked. Conditions: those of each theorem. The law ReleaseOrder walked. Conditions: those of the theorem. -/
import Derived.Test.YtpmlgnbbkpplhaaGreatDoorBld
import Derived.Test.YtpmlgnbbkpplhaaGreatDoorLem
import Derived.Test.YtpmlgnbbkpplhaaGreatDoorMany
import Derived.Test.YtpmlgnbbkpplhaaGreatDoorPost
import Derived.Test.YtpmlgnbbkpplhaaGreatDoorPk2
section
namespace Go.Proofs.YtpmlgnbbkpplhaaGreatDoor
set_option linter.unusedSimpArgs false
set_option linter.unusedVariables false
set_option maxRecDepth 20000
open Go.RowKit Go.Eng
structure SVer where
  p : List UInt8
  a : Int
  b : Int
  c : Int
  pre : Sl (List UInt8)
def SVer.enc (v : SVer) : List Value := [str v.p, .int .i64 v.a, .int .i64 v.b, .int .i64 v.c, .slice v.pre.A v.pre.q v.pre.c]
def SVer.val (v : SVer) : Value := .agg v.enc.toArray
def SVer.says (v : SVer) : PVer := ⟨v.p, v.a, v.b, v.c, v.pre.l⟩
structure VerOk (w : World) (v : SVer) : Prop where
  ok : v.pre.Ok strE 1 w
  q : v.pre.q ≤ 1000000000
  n : ∀ s ∈ v.pre.l, s.length ≤ 1000000000
  s : v.p.length ≤ 1000000000
  a : -9223372036854775808 ≤ v.a ∧ v.a ≤ 9223372036854775807
  b : -9223372036854775808 ≤ v.b ∧ v.b ≤ 9223372036854775807
  c : -9223372036854775808 ≤ v.c ∧ v.c ≤ 9223372036854775807
theorem VerOk.below {w w' : World} {v : SVer} (h : VerOk w v) (hb : Below w.heap.size w w') : VerOk w' v := ⟨h.ok.below hb, h.q, h.n, h.s, h.a, h.b, h.c⟩
def iE (n : Int) : List Value := [.int .i64 n]
theorem or4_any (A : Option Addr) (c : Nat) (x0 x1 x2 x3 : Int) (w : World) (hl : SlT iE 1 w A 4 [x0, x1, x2, x3]) : Calls Tryz.prog 95 #[.slice A 4 c] w fun e w' => e = .returned (.int .i64 (or4 x0 x1 x2 x3)) ∧ Below w.heap.size w w' := by
  refine enter_args (args := [.slice A 4 c]) (F := _) Tryz.func95 rfl Tryz.ntmps95 rfl rfl ?_
  intro Rb hRb hRn
  refine T_seq ?_
  refine T_region ?_
  refine S_ 2 rfl rfl rfl _ (y_assign rfl rfl) ?_
  refine S_go (fun _ _ h => h) ?_
  refine T_seq ?_
  refine T_region ?_
  refine S_ 3 rfl rfl rfl _ (y_assign rfl rfl) ?_
  refine S_go (fun _ _ h => h) ?_
  refine T_seq ?_
  refine T_seq ?_
  refine T_region ?_
  refine S_ 6 rfl rfl rfl _ (y_move rfl rfl) ?_
  refine S_ 7 rfl rfl rfl _ (y_len_slice rfl rfl Tryz.underlying142) ?_
  refine S_ 8 rfl rfl rfl _ (y_move rfl rfl) ?_
  refine S_go (fun _ _ h => h) ?_
  refine T_block ?_
  refine T_loopK1 (kf := [(2, 2), (5, 5), (8, 16)]) (kl := [(2, 2), (5, 5), (8, 16)]) (fun (i : Nat) => [(8, true, .int .i64 (i : Int))]) (fun (i : Nat) => []) (fun (i : Nat) => i ≤ 4 ∧ or4 x0 x1 x2 x3 = (([x0, x1, x2, x3].drop i).find? (fun x => decide (x ≠ 0))).getD 0) (fun (i : Nat) => 4 - i) 0 (by repeat (first | exact kf_nil | (apply kf_in; focus rfl) | (apply kf_out; focus rfl))) (by repeat (first | exact kl_nil | exact kl_rest (by assumption) rfl | (apply kl_in; focus rfl) | (apply kl_out; focus rfl))) ?_ ?_ ?_ ?_
  · exact ⟨by omega, by unfold or4; by_cases h0 : x0 = 0 <;> by_cases h1 : x1 = 0 <;> by_cases h2 : x2 = 0 <;> by_cases h3 : x3 = 0 <;> simp [h0, h1, h2, h3]⟩
  · exact ⟨rfl, trivial⟩
  · exact trivial
  rintro i ⟨hp1, hp2⟩
  refine T_seq ?_
  refine T_region ?_
  refine S_ 9 rfl rfl rfl _ (y_bin rfl rfl rfl (fun _ => b_lss)) ?_
  refine S_go (fun _ _ h => h) ?_
  refine T_seq ?_
  refine T_cond rfl (fun h9 => ?_) (fun h9 => ?_)
  · try simp only [decide_eq_true_eq, decide_eq_false_iff_not, Bool.or_eq_true, Bool.or_eq_false_iff, Bool.and_eq_true, Bool.and_eq_false_iff, Bool.not_eq_true', Bool.not_eq_false', Bool.not_eq_true, Bool.not_eq_false, Bool.not_true, Bool.not_false, Int.not_lt, Int.not_le, not_or, not_and, Classical.not_not] at h9
    obtain ⟨x, hx1, hx2⟩ := hl.at (i := i) (by omega)
    refine T_skip_go (fun _ _ h => h) ?_
    refine T_seq ?_
    refine T_block ?_
    refine T_seq ?_
    refine T_region ?_
    refine S_ 10 rfl rfl rfl _ (y_indexAddr rfl rfl rfl Tryz.underlying142 sz3 (fun hg => hl.isSome (by omega)) (fun _ => by omega)) ?_
    refine S_ 11 rfl rfl rfl _ (y_loadT1 (val := (fun n : Int => Value.int .i64 n)) rfl rfl hl (fun _ => hx1) Tryz.underlying3 rfl) ?_
    refine S_ 5 rfl rfl rfl _ (y_assign rfl rfl) ?_
    refine S_go (fun _ _ h => h) ?_
    refine T_seq ?_
    refine T_region ?_
    refine S_ 12 rfl rfl rfl _ (y_move rfl rfl) ?_
    refine S_ 13 rfl rfl rfl _ (y_move rfl rfl) ?_
    refine S_ 14 rfl rfl rfl _ (y_bin rfl rfl rfl (fun _ => b_neq)) ?_
    refine S_go (fun _ _ h => h) ?_
    refine T_cond rfl (fun h14 => ?_) (fun h14 => ?_)
    · try simp only [decide_eq_true_eq, decide_eq_false_iff_not, Bool.or_eq_true, Bool.or_eq_false_iff, Bool.and_eq_true, Bool.and_eq_false_iff, Bool.not_eq_true', Bool.not_eq_false', Bool.not_eq_true, Bool.not_eq_false, Bool.not_true, Bool.not_false, Int.not_lt, Int.not_le, not_or, not_and, Classical.not_not] at h14
      refine T_seq ?_
      refine T_region ?_
      refine S_ 15 rfl rfl rfl _ (y_move rfl rfl) ?_
      refine S_ 2 rfl rfl rfl _ (y_assign rfl rfl) ?_
      refine S_go (fun _ _ h => h) ?_
      refine T_ret (fun a w hF hM => hRb a w (post1 rfl rfl (fun w hM => ?_) a w hF hM))
      exact ⟨by rw [hp2, hx2, List.find?_cons_of_pos (by simpa using h14)]; rfl, hM.below⟩
    · try simp only [decide_eq_true_eq, decide_eq_false_iff_not, Bool.or_eq_true, Bool.or_eq_false_iff, Bool.and_eq_true, Bool.and_eq_false_iff, Bool.not_eq_true', Bool.not_eq_false', Bool.not_eq_true, Bool.not_eq_false, Bool.not_true, Bool.not_false, Int.not_lt, Int.not_le, not_or, not_and, Classical.not_not] at h14
      refine T_skip_go (fun _ _ h => h) ?_
      refine T_region ?_
      refine S_ 16 rfl rfl rfl _ (y_bin rfl rfl rfl (fun hg => b_add (by omega))) ?_
      refine S_ 8 rfl rfl rfl _ (y_move rfl rfl) ?_
      refine S_nil (nextK1 (kf := [(2, 2), (5, 5), (8, 16)]) (kl := [(2, 2), (5, 5), (8, 16)]) (i + 1) (by repeat (first | exact kf_nil | (apply kf_in; focus rfl) | (apply kf_out; focus rfl))) (by repeat (first | exact kl_nil | exact kl_rest (by assumption) rfl | (apply kl_in; focus rfl) | (apply kl_out; focus rfl))) ?_ ?_ ?_ ?_)
      · omega
      · exact ⟨by omega, by rw [hp2, hx2, List.find?_cons_of_neg (by simpa using h14)]⟩
      · exact ⟨rfl, trivial⟩
      · exact trivial
  · try simp only [decide_eq_true_eq, decide_eq_false_iff_not, Bool.or_eq_true, Bool.or_eq_false_iff, Bool.and_eq_true, Bool.and_eq_false_iff, Bool.not_eq_true', Bool.not_eq_false', Bool.not_eq_true, Bool.not_eq_false, Bool.not_true, Bool.not_false, Int.not_lt, Int.not_le, not_or, not_and, Classical.not_not] at h9
    refine T_exit_go (fun _ _ h => h) ?_
    refine T_seq ?_
    refine T_region ?_
    refine S_ 17 rfl rfl rfl _ (y_move rfl rfl) ?_
    refine S_ 2 rfl rfl rfl _ (y_assign rfl rfl) ?_
    refine S_go (fun _ _ h => h) ?_
    refine T_ret (fun a w hF hM => hRb a w (post1 rfl rfl (fun w hM => ?_) a w hF hM))
    exact ⟨by rw [hp2, hl.end (by omega)]; rfl, hM.below⟩
theorem pre1_any (s : List UInt8) (hs : s.length ≤ 1000000000) (w : World) : Calls Tryz.prog 198 #[str s] w fun e w' => e = .returned (.bool (ptNum s)) ∧ Below w.heap.size w w' := by
  refine enter_args (args := [str s]) (F := _) Tryz.func198 rfl Tryz.ntmps198 rfl rfl ?_
  intro Rb hRb hRn
  refine T_seq ?_
  refine T_region ?_
  refine S_ 2 rfl rfl rfl _ (y_assign rfl rfl) ?_
  refine S_go (fun _ _ h => h) ?_
  refine T_seq ?_
  refine T_region ?_
  refine S_ 3 rfl rfl rfl _ (y_move rfl rfl) ?_
  refine S_ 4 rfl rfl rfl _ (y_call rfl rfl rfl cf189 (fun _ w _ => allOfD_any s hs w)) ?_
  refine S_ 5 rfl rfl rfl _ (y_move rfl rfl) ?_
  refine Sg_ 6 rfl rfl rfl rfl rfl rfl _ (y_move rfl rfl) ?_
  refine Sg_ 7 rfl rfl rfl rfl rfl rfl _ (y_len_str rfl rfl Tryz.underlying9) ?_
  refine Sg_ 8 rfl rfl rfl rfl rfl rfl _ (y_bin rfl rfl rfl (fun _ => b_leq)) ?_
  refine S_ 9 rfl rfl rfl _ (y_and rfl rfl rfl) ?_
  refine S_ 2 rfl rfl rfl _ (y_assign rfl rfl) ?_
  refine S_go (fun _ _ h => h) ?_
  refine T_ret (fun a w hF hM => hRb a w (post1 rfl rfl (fun w hM => ?_) a w hF hM))
  exact ⟨rfl, hM.below⟩
theorem ptNum_dig {s : List UInt8} (h : ptNum s = true) : s ≠ [] ∧ s.length ≤ 6 ∧ ∀ c ∈ s, 48 ≤ c.toNat ∧ c.toNat ≤ 57 := by
  simp only [ptNum, Bool.and_eq_true, decide_eq_true_eq] at h
  have := allOf_dig h.1
  exact ⟨this.1, by omega, this.2⟩
theorem comparePre_any (x y : List UInt8) (hx : x.length ≤ 1000000000) (hy : y.length ≤ 1000000000) (w : World) : Calls Tryz.prog 99 #[str x, str y] w fun e w' => e = .returned (.int .i64 (cmpPart x y)) ∧ Below w.heap.size w w' := by
  refine enter_args (args := [str x, str y]) (F := _) Tryz.func99 rfl Tryz.ntmps99 rfl rfl ?_
  intro Rb hRb hRn
  refine T_seq ?_
  refine T_region ?_
  refine S_ 4 rfl rfl rfl _ (y_assign rfl rfl) ?_
  refine S_go (fun _ _ h => h) ?_
  refine T_seq ?_
  refine T_region ?_
  refine S_ 5 rfl rfl rfl _ (y_assign rfl rfl) ?_
  refine S_go (fun _ _ h => h) ?_
  refine T_seq ?_
  refine T_region ?_
  refine S_ 12 rfl rfl rfl _ (y_move rfl rfl) ?_
  refine S_ 13 rfl rfl rfl _ (y_move rfl rfl) ?_
  refine S_ 14 rfl rfl rfl _ (y_call rfl rfl rfl cf198 (fun _ w _ => pre1_any x hx w)) ?_
  refine S_ 15 rfl rfl rfl _ (y_move rfl rfl) ?_
  refine S_ 16 rfl rfl rfl _ (y_move rfl rfl) ?_
  refine S_ 17 rfl rfl rfl _ (y_call rfl rfl rfl cf198 (fun _ w _ => pre1_any y hy w)) ?_
  refine S_ 6 rfl rfl rfl _ (y_assign rfl rfl) ?_
  refine S_ 7 rfl rfl rfl _ (y_assign rfl rfl) ?_
  refine S_go (fun _ _ h => h) ?_
  refine T_seq ?_
  refine T_block ?_
  refine T_seq ?_
  refine T_region ?_
  refine S_ 19 rfl rfl rfl _ (y_move rfl rfl) ?_
  refine S_ 20 rfl rfl rfl _ (y_move rfl rfl) ?_
  refine Sg_ 21 rfl rfl rfl rfl rfl rfl _ (y_move rfl rfl) ?_
  refine S_ 22 rfl rfl rfl _ (y_and rfl rfl rfl) ?_
  refine S_ 18 rfl rfl rfl _ (y_assign rfl rfl) ?_
  refine S_go (fun _ _ h => h) ?_
  refine T_cond rfl (fun h18 => ?_) (fun h18 => ?_)
  · skip
    have hd1 := ptNum_dig (by simp only [Bool.and_eq_true] at h18; exact h18.1)
    have hd2 := ptNum_dig (by simp only [Bool.and_eq_true] at h18; exact h18.2)
    refine T_seq ?_
    refine T_region ?_
    refine S_ 24 rfl rfl rfl _ (y_move rfl rfl) ?_
    refine S_ 25 rfl rfl rfl _ (y_call rfl rfl rfl cf199 (fun _ w _ => Atoi_any x hd1.1 (by omega) hd1.2.2 w)) ?_
    refine S_ 23 rfl rfl rfl _ (y_move rfl rfl) ?_
    refine S_ 26 rfl rfl rfl _ (y_extract rfl rfl rfl) ?_
    refine S_ 27 rfl rfl rfl _ (y_extract rfl rfl rfl) ?_
    refine S_ 8 rfl rfl rfl _ (y_assign rfl rfl) ?_
    refine S_ 9 rfl rfl rfl _ (y_assign rfl rfl) ?_
    refine S_go (fun _ _ h => h) ?_
    refine T_seq ?_
    refine T_region ?_
    refine S_ 29 rfl rfl rfl _ (y_move rfl rfl) ?_
    refine S_ 30 rfl rfl rfl _ (y_call rfl rfl rfl cf199 (fun _ w _ => Atoi_any y hd2.1 (by omega) hd2.2.2 w)) ?_
    refine S_ 28 rfl rfl rfl _ (y_move rfl rfl) ?_
    refine S_ 31 rfl rfl rfl _ (y_extract rfl rfl rfl) ?_
    refine S_ 32 rfl rfl rfl _ (y_extract rfl rfl rfl) ?_
    refine S_ 10 rfl rfl rfl _ (y_assign rfl rfl) ?_
    refine S_ 11 rfl rfl rfl _ (y_assign rfl rfl) ?_
    refine S_go (fun _ _ h => h) ?_
    refine T_seq ?_
    refine T_region ?_
    refine S_ 33 rfl rfl rfl _ (y_move rfl rfl) ?_
    refine S_ 34 rfl rfl rfl _ (y_move rfl rfl) ?_
    refine S_ 35 rfl rfl rfl _ (y_call rfl rfl rfl cf97 (fun _ w _ => cmpJ_any _ _ w)) ?_
    refine S_ 4 rfl rfl rfl _ (y_assign rfl rfl) ?_
    refine S_go (fun _ _ h => h) ?_
    refine T_ret (fun a w hF hM => hRb a w (post1 rfl rfl (fun w hM => ?_) a w hF hM))
    exact ⟨by rw [cmpPart, if_pos h18], hM.below⟩
  · skip
    refine T_seq ?_
    refine T_region ?_
    refine S_ 37 rfl rfl rfl _ (y_move rfl rfl) ?_
    refine S_ 36 rfl rfl rfl _ (y_assign rfl rfl) ?_
    refine S_go (fun _ _ h => h) ?_
    refine T_cond rfl (fun h36 => ?_) (fun h36 => ?_)
    · skip
      refine T_seq ?_
      refine T_region ?_
      refine S_ 4 rfl rfl rfl _ (y_assign rfl rfl) ?_
      refine S_go (fun _ _ h => h) ?_
      refine T_ret (fun a w hF hM => hRb a w (post1 rfl rfl (fun w hM => ?_) a w hF hM))
      exact ⟨by rw [cmpPart, if_neg (by simp [h18]), if_pos h36], hM.below⟩
    · skip
      refine T_seq ?_
      refine T_region ?_
      refine S_ 39 rfl rfl rfl _ (y_move rfl rfl) ?_
      refine S_ 38 rfl rfl rfl _ (y_assign rfl rfl) ?_
      refine S_go (fun _ _ h => h) ?_
      refine T_cond rfl (fun h38 => ?_) (fun h38 => ?_)
      · skip
        refine T_seq ?_
        refine T_region ?_
        refine S_ 4 rfl rfl rfl _ (y_assign rfl rfl) ?_
        refine S_go (fun _ _ h => h) ?_
        refine T_ret (fun a w hF hM => hRb a w (post1 rfl rfl (fun w hM => ?_) a w hF hM))
        exact ⟨by rw [cmpPart, if_neg (by simp [h18]), if_neg (by simp [h36]), if_pos h38], hM.below⟩
      · skip
        refine T_skip_go (fun _ _ h => h) ?_
        refine T_seq ?_
        refine T_region ?_
        refine S_ 40 rfl rfl rfl _ (y_move rfl rfl) ?_
        refine S_ 41 rfl rfl rfl _ (y_move rfl rfl) ?_
        refine S_ 42 rfl rfl rfl _ (y_call rfl rfl rfl cf96 (fun _ w _ => cmpB_any _ _ w)) ?_
        refine S_ 4 rfl rfl rfl _ (y_assign rfl rfl) ?_
        refine S_go (fun _ _ h => h) ?_
        refine T_ret (fun a w hF hM => hRb a w (post1 rfl rfl (fun w hM => ?_) a w hF hM))
        exact ⟨by rw [cmpPart, if_neg (by simp [h18]), if_neg (by simp [h36]), if_neg (by simp [h38])], hM.below⟩
theorem CmpF_any (A B : Option Addr) (q c p d : Nat) (l m : List (List UInt8)) (w : World) (hl : SlT strE 1 w A q l) (hm : SlT strE 1 w B p m) (hq : q ≤ 1000000000) (hp : p ≤ 1000000000) (hln : ∀ s ∈ l, s.length ≤ 1000000000) (hmn : ∀ s ∈ m, s.length ≤ 1000000000) :
    Calls Tryz.prog 98 #[.slice A q c, .slice B p d, .func (.func 99) #[] #[]] w fun e w' => e = .returned (.int .i64 (cmpL cmpPart l m)) ∧ Below w.heap.size w w' := by
  have hlen := hl.len
  have hmen := hm.len
  refine enter_args (args := [.slice A q c, .slice B p d, .func (.func 99) #[] #[]]) (F := _) Tryz.func98 rfl Tryz.ntmps98 rfl rfl ?_
  intro Rb hRb hRn
  refine T_seq ?_
  refine T_region ?_
  refine S_ 6 rfl rfl rfl _ (y_assign rfl rfl) ?_
  refine S_go (fun _ _ h => h) ?_
  refine T_seq ?_
  refine T_seq ?_
  refine T_region ?_
  refine S_ 11 rfl rfl rfl _ (y_move rfl rfl) ?_
  refine S_ 12 rfl rfl rfl _ (y_len_slice rfl rfl Tryz.underlying40) ?_
  refine S_ 13 rfl rfl rfl _ (y_move rfl rfl) ?_
  refine S_go (fun _ _ h => h) ?_
  refine T_block ?_
  refine T_loopK1 (kf := [(6, 10), (13, 33)]) (kl := [(6, 10), (13, 33)]) (fun (i : Nat) => [(13, true, .int .i64 (i : Int))]) (fun (i : Nat) => []) (fun (i : Nat) => i ≤ q ∧ i ≤ p ∧ cmpL cmpPart l m = cmpL cmpPart (l.drop i) (m.drop i)) (fun (i : Nat) => q - i) 0 (by repeat (first | exact kf_nil | (apply kf_in; focus rfl) | (apply kf_out; focus rfl))) (by repeat (first | exact kl_nil | exact kl_rest (by assumption) rfl | (apply kl_in; focus rfl) | (apply kl_out; focus rfl))) ?_ ?_ ?_ ?_
  · exact ⟨by omega, by omega, rfl⟩
  · exact ⟨rfl, trivial⟩
  · exact trivial
  rintro i ⟨hp1, hp3, hp2⟩
  refine T_seq ?_
  refine T_region ?_
  refine S_ 14 rfl rfl rfl _ (y_bin rfl rfl rfl (fun _ => b_lss)) ?_
  refine S_go (fun _ _ h => h) ?_
  refine T_seq ?_
  refine T_cond rfl (fun h14 => ?_) (fun h14 => ?_)
  · try simp only [decide_eq_true_eq, decide_eq_false_iff_not, Bool.or_eq_true, Bool.or_eq_false_iff, Bool.and_eq_true, Bool.and_eq_false_iff, Bool.not_eq_true', Bool.not_eq_false', Bool.not_eq_true, Bool.not_eq_false, Bool.not_true, Bool.not_false, Int.not_lt, Int.not_le, not_or, not_and, Classical.not_not] at h14
    obtain ⟨x, hx1, hx2⟩ := hl.at (i := i) (by omega)
    refine T_skip_go (fun _ _ h => h) ?_
    refine T_seq ?_
    refine T_block ?_
    refine T_seq ?_
    refine T_region ?_
    refine S_ 15 rfl rfl rfl _ (y_move rfl rfl) ?_
    refine S_ 16 rfl rfl rfl _ (y_indexAddr rfl rfl rfl Tryz.underlying40 sz9 (fun hg => hl.isSome (by omega)) (fun _ => by omega)) ?_
    refine S_ 17 rfl rfl rfl _ (y_loadT1 (val := (fun l : List UInt8 => str l)) rfl rfl hl (fun _ => hx1) Tryz.underlying9 rfl) ?_
    refine S_ 7 rfl rfl rfl _ (y_assign rfl rfl) ?_
    refine S_ 8 rfl rfl rfl _ (y_assign rfl rfl) ?_
    refine S_go (fun _ _ h => h) ?_
    refine T_seq ?_
    refine T_seq ?_
    refine T_region ?_
    refine S_ 18 rfl rfl rfl _ (y_move rfl rfl) ?_
    refine S_ 19 rfl rfl rfl _ (y_move rfl rfl) ?_
    refine S_ 20 rfl rfl rfl _ (y_len_slice rfl rfl Tryz.underlying40) ?_
    refine S_ 21 rfl rfl rfl _ (y_bin rfl rfl rfl (fun _ => b_geq)) ?_
    refine S_go (fun _ _ h => h) ?_
    refine T_cond rfl (fun h21 => ?_) (fun h21 => ?_)
    · try simp only [decide_eq_true_eq, decide_eq_false_iff_not, Bool.or_eq_true, Bool.or_eq_false_iff, Bool.and_eq_true, Bool.and_eq_false_iff, Bool.not_eq_true', Bool.not_eq_false', Bool.not_eq_true, Bool.not_eq_false, Bool.not_true, Bool.not_false, Int.not_lt, Int.not_le, not_or, not_and, Classical.not_not] at h21
      refine T_seq ?_
      refine T_region ?_
      refine S_ 6 rfl rfl rfl _ (y_assign rfl rfl) ?_
      refine S_go (fun _ _ h => h) ?_
      refine T_ret (fun a w hF hM => hRb a w (post1 rfl rfl (fun w hM => ?_) a w hF hM))
      exact ⟨by rw [hp2, hx2, hm.end (by omega)]; rfl, hM.below⟩
    · try simp only [decide_eq_true_eq, decide_eq_false_iff_not, Bool.or_eq_true, Bool.or_eq_false_iff, Bool.and_eq_true, Bool.and_eq_false_iff, Bool.not_eq_true', Bool.not_eq_false', Bool.not_eq_true, Bool.not_eq_false, Bool.not_true, Bool.not_false, Int.not_lt, Int.not_le, not_or, not_and, Classical.not_not] at h21
      obtain ⟨y, hy1, hy2⟩ := hm.at (i := i) (by omega)
      refine T_skip_go (fun _ _ h => h) ?_
      refine T_seq ?_
      refine T_region ?_
      refine S_ 22 rfl rfl rfl _ (y_move rfl rfl) ?_
      refine S_ 23 rfl rfl rfl _ (y_move rfl rfl) ?_
      refine S_ 24 rfl rfl rfl _ (y_indexAddr rfl rfl rfl Tryz.underlying40 sz9 (fun hg => hm.isSome (by omega)) (fun _ => by omega)) ?_
      refine S_ 25 rfl rfl rfl _ (y_loadT1 (val := (fun l : List UInt8 => str l)) rfl rfl hm (fun _ => hy1) Tryz.underlying9 rfl) ?_
      refine S_ 9 rfl rfl rfl _ (y_assign rfl rfl) ?_
      refine S_go (fun _ _ h => h) ?_
      refine T_seq ?_
      refine T_region ?_
      refine S_ 26 rfl rfl rfl _ (y_move rfl rfl) ?_
      refine S_ 27 rfl rfl rfl _ (y_move rfl rfl) ?_
      refine S_ 28 rfl rfl rfl _ (y_move rfl rfl) ?_
      refine S_ 29 rfl rfl rfl _ (y_call rfl rfl rfl cf99 (fun _ w _ => comparePre_any x y (hln x (mem_at hx1)) (hmn y (mem_at hy1)) w)) ?_
      refine S_ 10 rfl rfl rfl _ (y_assign rfl rfl) ?_
      refine S_go (fun _ _ h => h) ?_
      refine T_seq ?_
      refine T_region ?_
      refine S_ 30 rfl rfl rfl _ (y_move rfl rfl) ?_
      refine S_ 31 rfl rfl rfl _ (y_bin rfl rfl rfl (fun _ => b_neq)) ?_
      refine S_go (fun _ _ h => h) ?_
      refine T_cond rfl (fun h31 => ?_) (fun h31 => ?_)
      · skip
        refine T_seq ?_
        refine T_region ?_
        refine S_ 32 rfl rfl rfl _ (y_move rfl rfl) ?_
        refine S_ 6 rfl rfl rfl _ (y_assign rfl rfl) ?_
        refine S_go (fun _ _ h => h) ?_
        refine T_ret (fun a w hF hM => hRb a w (post1 rfl rfl (fun w hM => ?_) a w hF hM))
        exact ⟨by rw [hp2, hx2, hy2, cmpL, if_pos (by simpa using h31)], hM.below⟩
      · skip
        refine T_skip_go (fun _ _ h => h) ?_
        refine T_region ?_
        refine S_ 33 rfl rfl rfl _ (y_bin rfl rfl rfl (fun hg => b_add (by omega))) ?_
        refine S_ 13 rfl rfl rfl _ (y_move rfl rfl) ?_
        refine S_nil (nextK1 (kf := [(6, 10), (13, 33)]) (kl := [(6, 10), (13, 33)]) (i + 1) (by repeat (first | exact kf_nil | (apply kf_in; focus rfl) | (apply kf_out; focus rfl))) (by repeat (first | exact kl_nil | exact kl_rest (by assumption) rfl | (apply kl_in; focus rfl) | (apply kl_out; focus rfl))) ?_ ?_ ?_ ?_)
        · omega
        · exact ⟨by omega, by omega, by rw [hp2, hx2, hy2, cmpL, if_neg (by simpa using h31)]⟩
        · exact ⟨rfl, trivial⟩
        · exact trivial
  · try simp only [decide_eq_true_eq, decide_eq_false_iff_not, Bool.or_eq_true, Bool.or_eq_false_iff, Bool.and_eq_true, Bool.and_eq_false_iff, Bool.not_eq_true', Bool.not_eq_false', Bool.not_eq_true, Bool.not_eq_false, Bool.not_true, Bool.not_false, Int.not_lt, Int.not_le, not_or, not_and, Classical.not_not] at h14
    refine T_exit_go (fun _ _ h => h) ?_
    refine T_seq ?_
    refine T_seq ?_
    refine T_region ?_
    refine S_ 34 rfl rfl rfl _ (y_move rfl rfl) ?_
    refine S_ 35 rfl rfl rfl _ (y_len_slice rfl rfl Tryz.underlying40) ?_
    refine S_ 36 rfl rfl rfl _ (y_move rfl rfl) ?_
    refine S_ 37 rfl rfl rfl _ (y_len_slice rfl rfl Tryz.underlying40) ?_
    refine S_ 38 rfl rfl rfl _ (y_bin rfl rfl rfl (fun _ => b_lss)) ?_
    refine S_go (fun _ _ h => h) ?_
    refine T_cond rfl (fun h38 => ?_) (fun h38 => ?_)
    · try simp only [decide_eq_true_eq, decide_eq_false_iff_not, Bool.or_eq_true, Bool.or_eq_false_iff, Bool.and_eq_true, Bool.and_eq_false_iff, Bool.not_eq_true', Bool.not_eq_false', Bool.not_eq_true, Bool.not_eq_false, Bool.not_true, Bool.not_false, Int.not_lt, Int.not_le, not_or, not_and, Classical.not_not] at h38
      refine T_seq ?_
      refine T_region ?_
      refine S_ 6 rfl rfl rfl _ (y_assign rfl rfl) ?_
      refine S_go (fun _ _ h => h) ?_
      refine T_ret (fun a w hF hM => hRb a w (post1 rfl rfl (fun w hM => ?_) a w hF hM))
      obtain ⟨y, hy1, hy2⟩ := hm.at (i := i) (by omega)
      exact ⟨by rw [hp2, hl.end (by omega), hy2]; rfl, hM.below⟩
    · try simp only [decide_eq_true_eq, decide_eq_false_iff_not, Bool.or_eq_true, Bool.or_eq_false_iff, Bool.and_eq_true, Bool.and_eq_false_iff, Bool.not_eq_true', Bool.not_eq_false', Bool.not_eq_true, Bool.not_eq_false, Bool.not_true, Bool.not_false, Int.not_lt, Int.not_le, not_or, not_and, Classical.not_not] at h38
      refine T_skip_go (fun _ _ h => h) ?_
      refine T_seq ?_
      refine T_region ?_
      refine S_ 6 rfl rfl rfl _ (y_assign rfl rfl) ?_
      refine S_go (fun _ _ h => h) ?_
      refine T_ret (fun a w hF hM => hRb a w (post1 rfl rfl (fun w hM => ?_) a w hF hM))
      exact ⟨by rw [hp2, hl.end (by omega), hm.end (by omega)]; rfl, hM.below⟩
theorem Compare_any (x y : SVer) (w : World) (hx : VerOk w x) (hy : VerOk w y) :
    Calls Tryz.prog 22 #[x.val, y.val] w fun e w' => e = .returned (.int .i64 (cmpV x.says y.says)) ∧ Below w.heap.size w w' := by
  have hxl := hx.ok.t.len
  have hyl := hy.ok.t.len
  have hxq := hx.q
  have hyq := hy.q
  have nil_iff : ∀ {l : List (List UInt8)} {q : Nat}, l.length = q → (l = [] ↔ (q : Int) = 0) := by
    intro l q h
    constructor
    · intro e; subst e; simp at h; omega
    · intro e; exact List.eq_nil_of_length_eq_zero (by omega)
  have hxn : x.says.pre = [] ↔ (x.pre.q : Int) = 0 := nil_iff hxl
  have hyn : y.says.pre = [] ↔ (y.pre.q : Int) = 0 := nil_iff hyl
  refine enter_args (args := [.agg #[str x.p, .int .i64 x.a, .int .i64 x.b, .int .i64 x.c, .slice x.pre.A x.pre.q x.pre.c], .agg #[str y.p, .int .i64 y.a, .int .i64 y.b, .int .i64 y.c, .slice y.pre.A y.pre.q y.pre.c]]) (F := _) Tryz.func22 rfl Tryz.ntmps22 rfl rfl ?_
  intro Rb hRb hRn
  refine T_seq ?_
  refine T_region ?_
  refine S_box 2 2 rfl rfl rfl rfl rfl ?_
  intro b2
  refine S_box 3 3 rfl rfl rfl rfl rfl ?_
  intro b3
  refine S_ 4 rfl rfl rfl _ (y_assign rfl rfl) ?_
  refine S_go (fun _ _ h => h) ?_
  refine T_seq ?_
  refine T_seq ?_
  refine T_drawsTail 20 (by kernel_rfl) (by kernel_rfl) ?_
  refine D_ 8 rfl rfl rfl _ (y_fieldAddr rfl rfl fa42_0) ?_
  refine D_ 9 rfl rfl rfl _ (y_load 2 rfl rfl rfl rfl Tryz.underlying9 rfl) ?_
  refine D_ 10 rfl rfl rfl _ (y_fieldAddr rfl rfl fa42_0) ?_
  refine D_ 11 rfl rfl rfl _ (y_load 3 rfl rfl rfl rfl Tryz.underlying9 rfl) ?_
  refine D_ 12 rfl rfl rfl _ (y_call rfl rfl rfl cf96 (fun _ w _ => cmpB_any _ _ w)) ?_
  refine D_ 13 rfl rfl rfl _ (y_fieldAddr rfl rfl fa42_1) ?_
  refine D_ 14 rfl rfl rfl _ (y_load 2 rfl rfl rfl rfl Tryz.underlying3 rfl) ?_
  refine D_ 15 rfl rfl rfl _ (y_fieldAddr rfl rfl fa42_1) ?_
  refine D_ 16 rfl rfl rfl _ (y_load 3 rfl rfl rfl rfl Tryz.underlying3 rfl) ?_
  refine D_ 17 rfl rfl rfl _ (y_call rfl rfl rfl cf97 (fun _ w _ => cmpJ_any _ _ w)) ?_
  refine D_ 18 rfl rfl rfl _ (y_fieldAddr rfl rfl fa42_2) ?_
  refine D_ 19 rfl rfl rfl _ (y_load 2 rfl rfl rfl rfl Tryz.underlying3 rfl) ?_
  refine D_ 20 rfl rfl rfl _ (y_fieldAddr rfl rfl fa42_2) ?_
  refine D_ 21 rfl rfl rfl _ (y_load 3 rfl rfl rfl rfl Tryz.underlying3 rfl) ?_
  refine D_ 22 rfl rfl rfl _ (y_call rfl rfl rfl cf97 (fun _ w _ => cmpJ_any _ _ w)) ?_
  refine D_ 23 rfl rfl rfl _ (y_fieldAddr rfl rfl fa42_3) ?_
  refine D_ 24 rfl rfl rfl _ (y_load 2 rfl rfl rfl rfl Tryz.underlying3 rfl) ?_
  refine D_ 25 rfl rfl rfl _ (y_fieldAddr rfl rfl fa42_3) ?_
  refine D_ 26 rfl rfl rfl _ (y_load 3 rfl rfl rfl rfl Tryz.underlying3 rfl) ?_
  refine D_ 27 rfl rfl rfl _ (y_call rfl rfl rfl cf97 (fun _ w _ => cmpJ_any _ _ w)) ?_
  refine D_tail ?_
  refine S_buildSlice 28 28 rfl rfl rfl rfl rfl Tryz.underlying142 inf3 rfl (by decide) (by decide) rfl rfl (by decide) rfl (_) rfl ?_
  intro b28
  refine S_ 29 rfl rfl rfl _ (y_as (v' := .int .i64 (headC x.says y.says)) (by exact rfl) (y_call rfl rfl rfl cf95 (fun _ w hM => or4_any _ _ (cmpB x.p y.p) (cmpJ x.a y.a) (cmpJ x.b y.b) (cmpJ x.c y.c) w ⟨own_reads hM (i := 28) rfl, rfl⟩))) ?_
  refine S_ 5 rfl rfl rfl _ (y_assign rfl rfl) ?_
  refine S_go (fun _ _ h => h) ?_
  refine T_seq ?_
  refine T_region ?_
  refine S_ 30 rfl rfl rfl _ (y_move rfl rfl) ?_
  refine S_ 31 rfl rfl rfl _ (y_bin rfl rfl rfl (fun _ => b_neq)) ?_
  refine S_go (fun _ _ h => h) ?_
  refine T_cond rfl (fun h31 => ?_) (fun h31 => ?_)
  · skip
    have h31 : headC x.says y.says ≠ 0 := by simpa using h31
    refine T_seq ?_
    refine T_region ?_
    refine S_ 32 rfl rfl rfl _ (y_move rfl rfl) ?_
    refine S_ 4 rfl rfl rfl _ (y_assign rfl rfl) ?_
    refine S_go (fun _ _ h => h) ?_
    refine T_ret (fun a w hF hM => hRb a w (post1 rfl rfl (fun w hM => ?_) a w hF hM))
    exact ⟨by rw [cmpV, if_pos h31], hM.below⟩
  · skip
    have h31 : ¬ headC x.says y.says ≠ 0 := by simpa using h31
    refine T_skip_go (fun _ _ h => h) ?_
    refine T_seq ?_
    refine T_seq ?_
    refine T_draws (by kernel_rfl) (by kernel_rfl) ?_
    refine D_ 33 rfl rfl rfl _ (y_fieldAddr rfl rfl fa42_4) ?_
    refine D_ 34 rfl rfl rfl _ (y_load 2 rfl rfl rfl rfl Tryz.underlying40 rfl) ?_
    refine D_ 35 rfl rfl rfl _ (y_len_slice rfl rfl Tryz.underlying40) ?_
    refine D_ 36 rfl rfl rfl _ (y_bin rfl rfl rfl (fun _ => b_eql)) ?_
    refine D_ 37 rfl rfl rfl _ (y_fieldAddr rfl rfl fa42_4) ?_
    refine D_ 38 rfl rfl rfl _ (y_load 3 rfl rfl rfl rfl Tryz.underlying40 rfl) ?_
    refine D_ 39 rfl rfl rfl _ (y_len_slice rfl rfl Tryz.underlying40) ?_
    refine D_ 40 rfl rfl rfl _ (y_bin rfl rfl rfl (fun _ => b_eql)) ?_
    refine D_ 6 rfl rfl rfl _ (y_assign rfl rfl) ?_
    refine D_ 7 rfl rfl rfl _ (y_assign rfl rfl) ?_
    refine D_go (fun _ _ h => h) ?_
    refine T_block ?_
    refine T_seq ?_
    refine T_region ?_
    refine S_ 42 rfl rfl rfl _ (y_move rfl rfl) ?_
    refine S_ 43 rfl rfl rfl _ (y_move rfl rfl) ?_
    refine Sg_ 44 rfl rfl rfl rfl rfl rfl _ (y_move rfl rfl) ?_
    refine S_ 45 rfl rfl rfl _ (y_and rfl rfl rfl) ?_
    refine S_ 41 rfl rfl rfl _ (y_assign rfl rfl) ?_
    refine S_go (fun _ _ h => h) ?_
    refine T_cond rfl (fun h41 => ?_) (fun h41 => ?_)
    · skip
      refine T_seq ?_
      refine T_region ?_
      refine S_ 4 rfl rfl rfl _ (y_assign rfl rfl) ?_
      refine S_go (fun _ _ h => h) ?_
      refine T_ret (fun a w hF hM => hRb a w (post1 rfl rfl (fun w hM => ?_) a w hF hM))
      simp only [Bool.and_eq_true, decide_eq_true_eq] at h41
      exact ⟨by rw [cmpV, if_neg h31, cmpPre, if_pos (hxn.2 h41.1), if_pos (hyn.2 h41.2)], hM.below⟩
    · skip
      refine T_seq ?_
      refine T_region ?_
      refine S_ 47 rfl rfl rfl _ (y_move rfl rfl) ?_
      refine S_ 46 rfl rfl rfl _ (y_assign rfl rfl) ?_
      refine S_go (fun _ _ h => h) ?_
      refine T_cond rfl (fun h46 => ?_) (fun h46 => ?_)
      · skip
        refine T_seq ?_
        refine T_region ?_
        refine S_ 4 rfl rfl rfl _ (y_assign rfl rfl) ?_
        refine S_go (fun _ _ h => h) ?_
        refine T_ret (fun a w hF hM => hRb a w (post1 rfl rfl (fun w hM => ?_) a w hF hM))
        simp only [Bool.and_eq_false_iff, decide_eq_false_iff_not] at h41
        simp only [decide_eq_true_eq] at h46
        exact ⟨by rw [cmpV, if_neg h31, cmpPre, if_pos (hxn.2 h46), if_neg (fun h => by have := hyn.1 h; omega)], hM.below⟩
      · skip
        refine T_seq ?_
        refine T_region ?_
        refine S_ 49 rfl rfl rfl _ (y_move rfl rfl) ?_
        refine S_ 48 rfl rfl rfl _ (y_assign rfl rfl) ?_
        refine S_go (fun _ _ h => h) ?_
        refine T_cond rfl (fun h48 => ?_) (fun h48 => ?_)
        · skip
          refine T_seq ?_
          refine T_region ?_
          refine S_ 4 rfl rfl rfl _ (y_assign rfl rfl) ?_
          refine S_go (fun _ _ h => h) ?_
          refine T_ret (fun a w hF hM => hRb a w (post1 rfl rfl (fun w hM => ?_) a w hF hM))
          simp only [decide_eq_false_iff_not] at h46
          simp only [decide_eq_true_eq] at h48
          exact ⟨by rw [cmpV, if_neg h31, cmpPre, if_neg (fun h => h46 (hxn.1 h)), if_pos (hyn.2 h48)], hM.below⟩
        · skip
          refine T_skip_go (fun _ _ h => h) ?_
          refine T_seq ?_
          refine T_region ?_
          refine S_ 50 rfl rfl rfl _ (y_fieldAddr rfl rfl fa42_4) ?_
          refine S_ 51 rfl rfl rfl _ (y_load 2 rfl rfl rfl rfl Tryz.underlying40 rfl) ?_
          refine S_ 52 rfl rfl rfl _ (y_fieldAddr rfl rfl fa42_4) ?_
          refine S_ 53 rfl rfl rfl _ (y_load 3 rfl rfl rfl rfl Tryz.underlying40 rfl) ?_
          refine S_ 54 rfl rfl rfl _ (y_call rfl rfl rfl cf98 (fun _ w hM => CmpF_any _ _ _ _ _ _ x.pre.l y.pre.l w (hx.ok.t.below hM.below) (hy.ok.t.below hM.below) hxq hyq hx.n hy.n)) ?_
          refine S_ 4 rfl rfl rfl _ (y_assign rfl rfl) ?_
          refine S_go (fun _ _ h => h) ?_
          refine T_ret (fun a w hF hM => hRb a w (post1 rfl rfl (fun w hM => ?_) a w hF hM))
          simp only [decide_eq_false_iff_not] at h46 h48
          exact ⟨by rw [cmpV, if_neg h31, cmpPre, if_neg (fun h => h46 (hxn.1 h)), if_neg (fun h => h48 (hyn.1 h))]; rfl, hM.below⟩
theorem routside_any (n lo hi : Int) (w : World) : Calls Tryz.prog 87 #[.int .i64 n, .int .i64 lo, .int .i64 hi] w fun e w' => e = .returned (.bool (outB n lo hi)) ∧ Below w.heap.size w w' := by
  refine enter_args (args := [.int .i64 n, .int .i64 lo, .int .i64 hi]) (F := _) Tryz.func87 rfl Tryz.ntmps87 rfl rfl ?_
  intro Rb hRb hRn
  refine T_seq ?_
  refine T_region ?_
  refine S_ 6 rfl rfl rfl _ (y_assign rfl rfl) ?_
  refine S_go (fun _ _ h => h) ?_
  refine T_seq ?_
  refine T_region ?_
  refine S_ 7 rfl rfl rfl _ (y_move rfl rfl) ?_
  refine S_ 8 rfl rfl rfl _ (y_move rfl rfl) ?_
  refine S_ 9 rfl rfl rfl _ (y_bin rfl rfl rfl (fun _ => b_lss)) ?_
  refine S_ 10 rfl rfl rfl _ (y_move rfl rfl) ?_
  refine Sg_ 11 rfl rfl rfl rfl rfl rfl _ (y_move rfl rfl) ?_
  refine Sg_ 12 rfl rfl rfl rfl rfl rfl _ (y_move rfl rfl) ?_
  refine Sg_ 13 rfl rfl rfl rfl rfl rfl _ (y_bin rfl rfl rfl (fun _ => b_gtr)) ?_
  refine S_ 14 rfl rfl rfl _ (y_or rfl rfl rfl) ?_
  refine S_ 6 rfl rfl rfl _ (y_assign rfl rfl) ?_
  refine S_go (fun _ _ h => h) ?_
  refine T_ret (fun a w hF hM => hRb a w (post1 rfl rfl (fun w hM => ?_) a w hF hM))
  exact ⟨rfl, hM.below⟩
/-! ### What parse makes, as it lies -/
def svr (p : PVer) (A : Option Addr) (c : Nat) : SVer := ⟨p.p, p.a, p.b, p.c, ⟨A, p.pre.length, c, p.pre⟩⟩
theorem svr_says (p : PVer) (A : Option Addr) (c : Nat) : (svr p A c).says = p := rfl
structure PBound (p : PVer) : Prop where
  n : p.pre.length ≤ 41
  s : ∀ s ∈ p.pre, s.length ≤ 40
  r : p.p.length ≤ 40
  a : 0 ≤ p.a ∧ p.a ≤ 999999
  b : 0 ≤ p.b ∧ p.b ≤ 999999
  c : 0 ≤ p.c ∧ p.c ≤ 999999
theorem pver0_bound : PBound pver0 := ⟨Nat.zero_le _, fun s h => (by cases h), Nat.zero_le _, ⟨Int.le_refl _, by decide⟩, ⟨Int.le_refl _, by decide⟩, ⟨Int.le_refl _, by decide⟩⟩
theorem verV_bound {s : List UInt8} (h : s.length ≤ 40) : PBound (verV s) := by
  have hr : (rsS s).length ≤ 40 := by rw [rsS, List.length_drop]; omega
  have hc := cut_le 45 (rsS s)
  have hn : ∀ w, 0 ≤ numI w ∧ numI w ≤ 999999 := by
    intro w
    unfold numI
    split
    · rename_i hw
      have := (numOk_val hw).2
      omega
    · omega
  refine ⟨?_, fun x hx => ?_, by show (prS s).length ≤ 40; rw [prS, List.length_take]; omega, hn _, hn _, hn _⟩
  · show (preS s).length ≤ 41
    unfold preS
    split
    · exact split_len40 (by omega)
    · exact Nat.zero_le _
  · have hx : x ∈ preS s := hx
    unfold preS at hx
    split at hx
    · have := spl_le 46 _ x hx; omega
    · cases hx
theorem parseR_bound (s : List UInt8) : PBound (parseR s).1 := by
  unfold parseR
  split
  · exact pver0_bound
  · rename_i h
    simp only [Bool.or_eq_true, decide_eq_true_eq, not_or] at h
    split
    · exact pver0_bound
    · split
      · exact pver0_bound
      · exact verV_bound (by omega)
theorem rel_len {s : List UInt8} (h : relOk s = true) : s.length ≤ 40 := ((parse_iff s).1 h).2.1
theorem parE_bound (s : List UInt8) : PBound (parE s).1 := by
  unfold parE
  split
  · rename_i h; exact verV_bound (rel_len h)
  · exact pver0_bound
theorem svr_ok {w : World} {p : PVer} {A : Option Addr} {c : Nat} (hp : PBound p) (h : Sl.Ok strE 1 w ⟨A, p.pre.length, c, p.pre⟩) : VerOk w (svr p A c) := by
  have h1 := hp.a
  have h2 := hp.b
  have h3 := hp.c
  exact ⟨h, Nat.le_trans hp.n (by decide), fun s hs => Nat.le_trans (hp.s s hs) (by decide), Nat.le_trans hp.r (by decide), by show _ ≤ p.a ∧ p.a ≤ _; omega, by show _ ≤ p.b ∧ p.b ≤ _; omega, by show _ ≤ p.c ∧ p.c ≤ _; omega⟩
end Go.Proofs.YtpmlgnbbkpplhaaGreatDoor
end
section
namespace Go.Proofs.YtpmlgnbbkpplhaaGreatDoor
set_option linter.unusedSimpArgs false
set_option linter.unusedVariables false
set_option maxRecDepth 20000
open Go.RowKit Go.Eng
end Go.Proofs.YtpmlgnbbkpplhaaGreatDoor
end
section
namespace Go.Proofs.YtpmlgnbbkpplhaaGreatDoor
set_option linter.unusedSimpArgs false
set_option linter.unusedVariables false
set_option maxRecDepth 20000
open Go.RowKit Go.Eng
/-! ### .. by the bytes alone -/
end Go.Proofs.YtpmlgnbbkpplhaaGreatDoor
end
section
namespace Go.Proofs.YtpmlgnbbkpplhaaGreatDoor
set_option linter.unusedSimpArgs false
set_option linter.unusedVariables false
set_option maxRecDepth 20000
open Go.RowKit Go.Eng
def allNo (l : List (List UInt8)) : Int := if (2000 : Int) < l.length then 4 else if (l.all fun s => relOk s) = true then 0 else 8
structure AllR where
  A : Option Addr
  c : Nat
  l : List SVer
  rs : List Row
def AllR.sl (z : AllR) : Sl SVer := ⟨z.A, z.l.length, z.c, z.l⟩
structure AllR.Ok (w0 : World) (z : AllR) (S : List (List UInt8)) : Prop where
  says : z.l.map SVer.says = if allNo S = 0 then S.map verV else []
  n : ∀ v ∈ z.l, Sees w0 z.rs fun w => VerOk w v
theorem AllR.nil {w0 : World} {S : List (List UInt8)} {rs : List Row} (h : allNo S ≠ 0) : AllR.Ok w0 ⟨none, 0, [], rs⟩ S := ⟨by rw [if_neg h]; rfl, fun v hv => by cases hv⟩
theorem all_bad {S : List (List UInt8)} {s : List UInt8} (h : ¬ (2000 : Int) < S.length) (hs : s ∈ S) (hb : relOk s = false) : allNo S = 8 := by
  rw [allNo, if_neg h, if_neg]
  intro ha
  rw [List.all_eq_true.1 ha s hs] at hb; cases hb
theorem all_good {S : List (List UInt8)} (h : ¬ (2000 : Int) < S.length) (hs : ∀ s ∈ S, relOk s = true) : allNo S = 0 := by
  rw [allNo, if_neg h, if_pos (List.all_eq_true.2 hs)]
theorem all_ok {S : List (List UInt8)} (h : allNo S = 0) : S.length ≤ 2000 ∧ ∀ s ∈ S, relOk s = true := by
  unfold allNo at h
  split at h
  · omega
  · split at h
    · rename_i h1 h2
      exact ⟨by omega, List.all_eq_true.1 h2⟩
    · omega
set_option maxHeartbeats 1600000 in
theorem parseAll_any {w0 : World} {K : HL} (hK : FromK K) (A : Option Addr) (q c : Nat) (S : List (List UInt8)) (w : World) (hl : SlT strE 1 w0 A q S) (hM0 : Mem w0 ([] ++ K) w) :
    Calls Tryz.prog 110 #[.slice A q c] w fun e w' => ∃ z : AllR, e = .returned (.tuple #[.slice z.A z.l.length z.c, .int .i64 (allNo S)]) ∧ z.Ok w0 S ∧ Mem w0 ([(4, .own 42 5 (.slice z.A z.l.length z.c) z.l.length (z.l.flatMap SVer.enc)), (900, .many z.rs)] ++ K) w' := by
  have hlen := hl.len
  refine enterM_args (args := [.slice A q c]) (F := _) hM0 Tryz.func110 rfl Tryz.ntmps110 rfl rfl ?_
  intro Rb hRb hRn
  refine T_many0 900 ?_
  refine T_seq ?_
  refine T_region ?_
  refine S_nilSlice 2 (e := 42) (size := 5) ?_
  refine S_ 2 rfl rfl rfl _ (y_assign rfl rfl) ?_
  refine S_ 3 rfl rfl rfl _ (y_assign rfl rfl) ?_
  refine S_go (fun _ _ h => h) ?_
  refine T_seq ?_
  refine T_seq ?_
  refine T_region ?_
  refine S_ 9 rfl rfl rfl _ (y_move rfl rfl) ?_
  refine S_ 10 rfl rfl rfl _ (y_len_slice rfl rfl Tryz.underlying40) ?_
  refine S_ 11 rfl rfl rfl _ (y_bin rfl rfl rfl (fun _ => b_gtr)) ?_
  refine S_go (fun _ _ h => h) ?_
  refine T_cond rfl (fun h11 => ?_) (fun h11 => ?_)
  · try simp only [decide_eq_true_eq, decide_eq_false_iff_not, Bool.or_eq_true, Bool.or_eq_false_iff, Bool.and_eq_true, Bool.and_eq_false_iff, Bool.not_eq_true', Bool.not_eq_false', Bool.not_eq_true, Bool.not_eq_false, Bool.not_true, Bool.not_false, Int.not_lt, Int.not_le, not_or, not_and, Classical.not_not] at h11
    have hno : allNo S = 4 := by rw [allNo, if_pos (by omega)]
    refine T_seq ?_
    refine T_region ?_
    refine S_nilSlice 2 (e := 42) (size := 5) ?_
    refine S_ 2 rfl rfl rfl _ (y_assign rfl rfl) ?_
    refine S_nilSlice 4 (e := 42) (size := 5) ?_
    refine S_ 3 rfl rfl rfl _ (y_assign rfl rfl) ?_
    refine S_go (fun _ _ h => h) ?_
    refine T_ret (fun a w hF hM => hRb a w (post2 rfl rfl rfl (fun w hM => ?_) a w hF hM))
    rw [hno]
    exact ⟨⟨none, 0, [], []⟩, rfl, AllR.nil (by rw [hno]; decide), (hM.keep (ks := [(0, 999)]) (by repeat (first | exact kl_rest (by assumption) rfl | (apply kl_in; focus rfl))) _ ⟨rfl, rfl, trivial⟩)⟩
  · try simp only [decide_eq_true_eq, decide_eq_false_iff_not, Bool.or_eq_true, Bool.or_eq_false_iff, Bool.and_eq_true, Bool.and_eq_false_iff, Bool.not_eq_true', Bool.not_eq_false', Bool.not_eq_true, Bool.not_eq_false, Bool.not_true, Bool.not_false, Int.not_lt, Int.not_le, not_or, not_and, Classical.not_not] at h11
    have hq : q ≤ 2000 := by omega
    refine T_skip_go (fun _ _ h => h) ?_
    refine T_seq ?_
    refine T_region ?_
    refine S_nilSlice 4 (e := 42) (size := 5) ?_
    refine S_ 4 rfl rfl rfl _ (y_assign rfl rfl) ?_
    refine S_go (fun _ _ h => h) ?_
    refine T_seq ?_
    refine T_seq ?_
    refine T_region ?_
    refine S_ 12 rfl rfl rfl _ (y_move rfl rfl) ?_
    refine S_ 13 rfl rfl rfl _ (y_len_slice rfl rfl Tryz.underlying40) ?_
    refine S_ 14 rfl rfl rfl _ (y_move rfl rfl) ?_
    refine S_go (fun _ _ h => h) ?_
    refine T_block ?_
    refine T_loopK5 (kf := [(2, 4), (6, 8), (14, 29)]) (kl := [(2, 4), (6, 8), (14, 29), (900, 900)]) (fun (i : Nat) (L : List SVer) (A4 : Option Addr) (c4 : Nat) (rs : List Row) => [(14, true, .int .i64 (i : Int)), (4, true, .slice A4 i c4)]) (fun (i : Nat) (L : List SVer) (A4 : Option Addr) (c4 : Nat) (rs : List Row) => [(4, .own 42 5 (.slice A4 i c4) i (L.flatMap SVer.enc)), (900, .many rs)]) (fun (i : Nat) (L : List SVer) (A4 : Option Addr) (c4 : Nat) (rs : List Row) => i ≤ q ∧ L.length = i ∧ L.map SVer.says = (S.take i).map verV ∧ (∀ s ∈ S.take i, relOk s = true) ∧ ∀ v ∈ L, Sees w0 rs fun w => VerOk w v) (fun (i : Nat) (L : List SVer) (A4 : Option Addr) (c4 : Nat) (rs : List Row) => q - i) 0 [] none 0 [] (by repeat (first | exact kf_nil | (apply kf_in; focus rfl) | (apply kf_out; focus rfl))) (by repeat (first | exact kl_nil | exact kl_rest (by assumption) rfl | (apply kl_in; focus rfl) | (apply kl_out; focus rfl))) ?_ ?_ ?_ ?_
    · exact ⟨by omega, rfl, rfl, (fun s h => by cases h), (fun v h => by cases h)⟩
    · exact ⟨rfl, rfl, trivial⟩
    · exact ⟨rfl, rfl, trivial⟩
    rintro i L A4 c4 rs ⟨hp1, hp2, hp3, hp4, hp5⟩
    refine T_seq ?_
    refine T_region ?_
    refine S_ 15 rfl rfl rfl _ (y_bin rfl rfl rfl (fun _ => b_lss)) ?_
    refine S_go (fun _ _ h => h) ?_
    refine T_seq ?_
    refine T_cond rfl (fun h15 => ?_) (fun h15 => ?_)
    · try simp only [decide_eq_true_eq, decide_eq_false_iff_not, Bool.or_eq_true, Bool.or_eq_false_iff, Bool.and_eq_true, Bool.and_eq_false_iff, Bool.not_eq_true', Bool.not_eq_false', Bool.not_eq_true, Bool.not_eq_false, Bool.not_true, Bool.not_false, Int.not_lt, Int.not_le, not_or, not_and, Classical.not_not] at h15
      obtain ⟨x, hx1, hx2⟩ := hl.at (i := i) (by omega)
      refine T_skip_go (fun _ _ h => h) ?_
      refine T_seq ?_
      refine T_block ?_
      refine T_seq ?_
      refine T_region ?_
      refine S_ 16 rfl rfl rfl _ (y_indexAddr rfl rfl rfl Tryz.underlying40 sz9 (fun hg => hl.isSome (by omega)) (fun _ => by omega)) ?_
      refine S_ 17 rfl rfl rfl _ (y_loadT1 (val := (fun l : List UInt8 => str l)) rfl rfl hl (fun _ => hx1) Tryz.underlying9 rfl) ?_
      refine S_ 6 rfl rfl rfl _ (y_assign rfl rfl) ?_
      refine S_go (fun _ _ h => h) ?_
      refine T_seq ?_
      refine T_region ?_
      refine S_ 19 rfl rfl rfl _ (y_move rfl rfl) ?_
      refine S_callOwn 20 20 rfl rfl rfl rfl rfl rfl rfl cf101 (fun A c => .tuple #[pvV (parseR x).1 A c, .bool (parseR x).2]) 9 1 ((parseR x).1.pre.length) ((parseR x).1.pre.flatMap strE) (fun w hM => parse_any x w) ?_
      intro A20 c20
      refine S_ 18 rfl rfl rfl _ (y_move rfl rfl) ?_
      refine S_ 21 rfl rfl rfl _ (y_extract rfl rfl rfl) ?_
      refine S_ 22 rfl rfl rfl _ (y_extract rfl rfl rfl) ?_
      refine S_alloc 7 7 rfl rfl rfl rfl z42 ?_
      intro b7
      refine S_store 7 rfl rfl rfl rfl rfl rfl sz42 rfl rfl ?_
      refine S_ 8 rfl rfl rfl _ (y_assign rfl rfl) ?_
      refine S_go (fun _ _ h => h) ?_
      refine T_seq ?_
      refine T_seq ?_
      refine T_region ?_
      refine S_ 23 rfl rfl rfl _ (y_move rfl rfl) ?_
      refine S_ 24 rfl rfl rfl _ (y_not rfl rfl) ?_
      refine S_go (fun _ _ h => h) ?_
      refine T_cond rfl (fun h24 => ?_) (fun h24 => ?_)
      · skip
        have h24 : relOk x = false := by simpa using h24
        have hno : allNo S = 8 := all_bad (by omega) (mem_at hx1) h24
        refine T_seq ?_
        refine T_region ?_
        refine S_nilSlice 2 (e := 42) (size := 5) ?_
        refine S_ 2 rfl rfl rfl _ (y_assign rfl rfl) ?_
        refine S_nilSlice 4 (e := 42) (size := 5) ?_
        refine S_ 3 rfl rfl rfl _ (y_assign rfl rfl) ?_
        refine S_go (fun _ _ h => h) ?_
        refine T_ret (fun a w hF hM => hRb a w (post2 rfl rfl rfl (fun w hM => ?_) a w hF hM))
        rw [hno]
        exact ⟨⟨none, 0, [], rs⟩, rfl, AllR.nil (by rw [hno]; decide), (hM.keep (ks := [(0, 999)]) (by repeat (first | exact kl_rest (by assumption) rfl | (apply kl_in; focus rfl))) _ ⟨rfl, rfl, trivial⟩)⟩
      · skip
        have h24 : relOk x = true := by simpa using h24
        refine T_skip_go (fun _ _ h => h) ?_
        refine T_region ?_
        refine S_ 25 rfl rfl rfl _ (y_move rfl rfl) ?_
        refine S_ 26 rfl rfl rfl _ (y_loadA 7 rfl rfl rfl Tryz.underlying42 rfl sz42) ?_
        refine S_buildSlice 27 27 rfl rfl rfl rfl rfl Tryz.underlying146 inf42 rfl (by decide) (by decide) rfl rfl (by decide) rfl (_) rfl ?_
        intro b27
        obtain ⟨i28, hi28, hz28, hs28, hy28⟩ := info_parts inf42
        refine S_append 28 4 27 rfl rfl rfl rfl rfl rfl rfl rfl Tryz.underlying146 hi28 hz28 hs28 hy28 rfl (by decide) (by decide) rfl ?_ ?_ (i + 1) ((L ++ [svr (parseR x).1 A20 c20]).flatMap SVer.enc) ?_ ?_ ?_
        · (simp only [maxLen]; omega)
        · omega
        · rfl
        · simp [List.flatMap_append]; rfl
        intro A28 c28
        refine S_ 4 rfl rfl rfl _ (y_assign rfl rfl) ?_
        refine S_go (fun _ _ h => h) ?_
        refine T_region ?_
        refine S_ 29 rfl rfl rfl _ (y_bin rfl rfl rfl (fun hg => b_add (by omega))) ?_
        refine S_ 14 rfl rfl rfl _ (y_move rfl rfl) ?_
        refine S_bank [(20, 20), (900, 900)] 900 20 rfl rfl rfl rfl (by repeat (first | exact kl_nil | exact kl_rest (by assumption) rfl | (apply kl_in; focus rfl) | (apply kl_out; focus rfl))) ?_
        refine S_nil (nextK5 (kf := [(2, 4), (6, 8), (14, 29)]) (kl := [(2, 4), (6, 8), (14, 29), (900, 900)]) (i + 1) (L ++ [svr (parseR x).1 A20 c20]) A28 c28 (rs ++ [⟨9, 1, .slice A20 (parseR x).1.pre.length c20, (parseR x).1.pre.length, (parseR x).1.pre.flatMap strE⟩]) (by repeat (first | exact kf_nil | (apply kf_in; focus rfl) | (apply kf_out; focus rfl))) (by repeat (first | exact kl_nil | exact kl_rest (by assumption) rfl | (apply kl_in; focus rfl) | (apply kl_out; focus rfl))) ?_ ?_ ?_ ?_)
        · omega
        · have htk : S.take (i + 1) = S.take i ++ [x] := by rw [List.take_add_one, hx1]; rfl
          exact ⟨by omega, by rw [List.length_append, hp2]; rfl, by rw [htk, List.map_append, List.map_append, hp3]; exact congrArg (_ ++ [·]) (parse_ver h24), by rw [htk]; intro s hs; rcases List.mem_append.1 hs with h | h; exact hp4 s h; rw [List.mem_singleton.1 h]; exact h24, fun v hv => by
            rcases List.mem_append.1 hv with h | h
            · exact (hp5 v h).app
            · rw [List.mem_singleton.1 h]
              exact Sees.map (Sees.row (A := A20) (c := c20) (q := (parseR x).1.pre.length) (l := (parseR x).1.pre) (enc := strE) (List.mem_append_right _ (List.mem_singleton.2 rfl)) rfl) fun w hw => svr_ok (parseR_bound x) hw⟩
        · exact ⟨rfl, rfl, trivial⟩
        · exact ⟨rfl, rfl, trivial⟩
    · try simp only [decide_eq_true_eq, decide_eq_false_iff_not, Bool.or_eq_true, Bool.or_eq_false_iff, Bool.and_eq_true, Bool.and_eq_false_iff, Bool.not_eq_true', Bool.not_eq_false', Bool.not_eq_true, Bool.not_eq_false, Bool.not_true, Bool.not_false, Int.not_lt, Int.not_le, not_or, not_and, Classical.not_not] at h15
      refine T_exit_go (fun _ _ h => h) ?_
      refine T_seq ?_
      refine T_region ?_
      refine S_ 30 rfl rfl rfl _ (y_move rfl rfl) ?_
      refine S_ 2 rfl rfl rfl _ (y_assign rfl rfl) ?_
      refine S_ 3 rfl rfl rfl _ (y_assign rfl rfl) ?_
      refine S_go (fun _ _ h => h) ?_
      refine T_ret (fun a w hF hM => hRb a w (post2 rfl rfl rfl (fun w hM => ?_) a w hF hM))
      have htk : S.take i = S := List.take_of_length_le (by omega)
      rw [htk] at hp3 hp4
      have hno : allNo S = 0 := all_good (by omega) hp4
      rw [hno]
      subst hp2
      exact ⟨⟨A4, c4, L, rs⟩, rfl, ⟨by rw [if_pos hno]; exact hp3, hp5⟩, (hM.keep (ks := [(0, 999)]) (by repeat (first | exact kl_rest (by assumption) rfl | (apply kl_in; focus rfl))) _ ⟨rfl, rfl, trivial⟩)⟩
/-! ### A list of versions asked -/
structure VersR (w : World) (l : Sl SVer) : Prop where
  ok : l.Ok SVer.enc 5 w
  q : l.q ≤ 1000000000
  n : ∀ v ∈ l.l, VerOk w v
theorem VersR.below {w w' : World} {l : Sl SVer} (h : VersR w l) (hb : Below w.heap.size w w') : VersR w' l := ⟨h.ok.below hb, h.q, fun v hv => (h.n v hv).below hb⟩
theorem IndexFV_any (l : Sl SVer) (g : FuncId) (cap : Array Value) (p : SVer → Bool) (w : World) (hl : VersR w l) (hcf : ∀ args w, (callFunc g args).run Tryz.prog w = .ok (.enter g args) w)
    (hA : ∀ x ∈ l.l, ∀ w', Below w.heap.size w w' → Calls Tryz.prog g (#[x.val] ++ cap) w' fun e w'' => e = .returned (.bool (p x)) ∧ Below w'.heap.size w' w'') :
    Calls Tryz.prog 292 #[.slice l.A l.q l.c, .func (.func g) #[] cap] w fun e w' => e = .returned (.int .i64 (findP p l.l 0)) ∧ Below w.heap.size w w' := by
  have ht := hl.ok.t
  have hq := hl.q
  refine enter_args (args := [.slice l.A l.q l.c, .func (.func g) #[] cap]) (F := _) Tryz.func292 rfl Tryz.ntmps292 rfl rfl ?_
  intro Rb hRb hRn
  refine T_seq ?_
  refine T_region ?_
  refine S_ 4 rfl rfl rfl _ (y_assign rfl rfl) ?_
  refine S_go (fun _ _ h => h) ?_
  refine T_seq ?_
  refine T_seq ?_
  refine T_region ?_
  refine S_ 6 rfl rfl rfl _ (y_move rfl rfl) ?_
  refine S_ 7 rfl rfl rfl _ (y_len_slice rfl rfl Tryz.underlying146) ?_
  refine S_ 8 rfl rfl rfl _ (y_move rfl rfl) ?_
  refine S_go (fun _ _ h => h) ?_
  refine T_block ?_
  refine T_loopK1 (kf := [(4, 5), (8, 18)]) (kl := [(4, 5), (8, 18)]) (fun (i : Nat) => [(8, true, .int .i64 (i : Int))]) (fun (i : Nat) => []) (fun (i : Nat) => i ≤ l.q ∧ findP p l.l 0 = findP p (l.l.drop i) i) (fun (i : Nat) => l.q - i) 0 (by repeat (first | exact kf_nil | (apply kf_in; focus rfl) | (apply kf_out; focus rfl))) (by repeat (first | exact kl_nil | exact kl_rest (by assumption) rfl | (apply kl_in; focus rfl) | (apply kl_out; focus rfl))) ?_ ?_ ?_ ?_
  · exact ⟨by omega, rfl⟩
  · exact ⟨rfl, trivial⟩
  · exact trivial
  rintro i ⟨hp1, hp2⟩
  refine T_seq ?_
  refine T_region ?_
  refine S_ 9 rfl rfl rfl _ (y_bin rfl rfl rfl (fun _ => b_lss)) ?_
  refine S_go (fun _ _ h => h) ?_
  refine T_seq ?_
  refine T_cond rfl (fun h9 => ?_) (fun h9 => ?_)
  · try simp only [decide_eq_true_eq, decide_eq_false_iff_not, Bool.or_eq_true, Bool.or_eq_false_iff, Bool.and_eq_true, Bool.and_eq_false_iff, Bool.not_eq_true', Bool.not_eq_false', Bool.not_eq_true, Bool.not_eq_false, Bool.not_true, Bool.not_false, Int.not_lt, Int.not_le, not_or, not_and, Classical.not_not] at h9
    obtain ⟨x, hx1, hx2⟩ := ht.at (i := i) (by omega)
    refine T_skip_go (fun _ _ h => h) ?_
    refine T_seq ?_
    refine T_block ?_
    refine T_seq ?_
    refine T_region ?_
    refine S_ 10 rfl rfl rfl _ (y_move rfl rfl) ?_
    refine S_ 5 rfl rfl rfl _ (y_assign rfl rfl) ?_
    refine S_go (fun _ _ h => h) ?_
    refine T_seq ?_
    refine T_region ?_
    refine S_ 11 rfl rfl rfl _ (y_move rfl rfl) ?_
    refine S_ 12 rfl rfl rfl _ (y_move rfl rfl) ?_
    refine S_ 13 rfl rfl rfl _ (y_move rfl rfl) ?_
    refine S_ 14 rfl rfl rfl _ (y_indexAddr rfl rfl rfl Tryz.underlying146 sz42 (fun hg => ht.isSome (by omega)) (fun _ => by omega)) ?_
    refine S_ 15 rfl rfl rfl _ (y_loadT rfl rfl ht (fun _ => rfl) (fun _ => hx1) Tryz.underlying42 rfl sz42) ?_
    refine S_ 16 rfl rfl rfl _ (y_call rfl rfl rfl hcf (fun _ w hM => hA x (mem_at hx1) w hM.below)) ?_
    refine S_go (fun _ _ h => h) ?_
    refine T_cond rfl (fun h16 => ?_) (fun h16 => ?_)
    · skip
      refine T_seq ?_
      refine T_region ?_
      refine S_ 17 rfl rfl rfl _ (y_move rfl rfl) ?_
      refine S_ 4 rfl rfl rfl _ (y_assign rfl rfl) ?_
      refine S_go (fun _ _ h => h) ?_
      refine T_ret (fun a w hF hM => hRb a w (post1 rfl rfl (fun w hM => ?_) a w hF hM))
      exact ⟨by rw [hp2, hx2, findP, if_pos h16], hM.below⟩
    · skip
      refine T_skip_go (fun _ _ h => h) ?_
      refine T_region ?_
      refine S_ 18 rfl rfl rfl _ (y_bin rfl rfl rfl (fun hg => b_add (by omega))) ?_
      refine S_ 8 rfl rfl rfl _ (y_move rfl rfl) ?_
      refine S_nil (nextK1 (kf := [(4, 5), (8, 18)]) (kl := [(4, 5), (8, 18)]) (i + 1) (by repeat (first | exact kf_nil | (apply kf_in; focus rfl) | (apply kf_out; focus rfl))) (by repeat (first | exact kl_nil | exact kl_rest (by assumption) rfl | (apply kl_in; focus rfl) | (apply kl_out; focus rfl))) ?_ ?_ ?_ ?_)
      · omega
      · exact ⟨by omega, by rw [hp2, hx2, findP, if_neg (by simp [h16])]⟩
      · exact ⟨rfl, trivial⟩
      · exact trivial
  · try simp only [decide_eq_true_eq, decide_eq_false_iff_not, Bool.or_eq_true, Bool.or_eq_false_iff, Bool.and_eq_true, Bool.and_eq_false_iff, Bool.not_eq_true', Bool.not_eq_false', Bool.not_eq_true, Bool.not_eq_false, Bool.not_true, Bool.not_false, Int.not_lt, Int.not_le, not_or, not_and, Classical.not_not] at h9
    refine T_exit_go (fun _ _ h => h) ?_
    refine T_seq ?_
    refine T_region ?_
    refine S_ 4 rfl rfl rfl _ (y_assign rfl rfl) ?_
    refine S_go (fun _ _ h => h) ?_
    refine T_ret (fun a w hF hM => hRb a w (post1 rfl rfl (fun w hM => ?_) a w hF hM))
    exact ⟨by rw [hp2, ht.end (by omega)]; rfl, hM.below⟩
theorem ContFV_any (l : Sl SVer) (g : FuncId) (cap : Array Value) (p : SVer → Bool) (w : World) (hl : VersR w l) (hcf : ∀ args w, (callFunc g args).run Tryz.prog w = .ok (.enter g args) w)
    (hA : ∀ x ∈ l.l, ∀ w', Below w.heap.size w w' → Calls Tryz.prog g (#[x.val] ++ cap) w' fun e w'' => e = .returned (.bool (p x)) ∧ Below w'.heap.size w' w'') :
    Calls Tryz.prog 243 #[.slice l.A l.q l.c, .func (.func g) #[] cap] w fun e w' => e = .returned (.bool (l.l.any p)) ∧ Below w.heap.size w w' := by
  have hf := findP_any p l.l 0
  have e : l.l.any p = decide (0 ≤ findP p l.l 0) := by
    cases h : l.l.any p with
    | false => rw [decide_eq_false]; have := hf.1.2 h; omega
    | true => rw [decide_eq_true]; rcases Int.lt_or_le (findP p l.l 0) 0 with h1 | h1
              · rw [hf.1.1 h1] at h; cases h
              · exact h1
  rw [e]
  refine enter_args (args := [.slice l.A l.q l.c, .func (.func g) #[] cap]) (F := _) Tryz.func243 rfl Tryz.ntmps243 rfl rfl ?_
  intro Rb hRb hRn
  refine T_seq ?_
  refine T_region ?_
  refine S_ 4 rfl rfl rfl _ (y_assign rfl rfl) ?_
  refine S_go (fun _ _ h => h) ?_
  refine T_seq ?_
  refine T_region ?_
  refine S_ 5 rfl rfl rfl _ (y_move rfl rfl) ?_
  refine S_ 6 rfl rfl rfl _ (y_move rfl rfl) ?_
  refine S_ 7 rfl rfl rfl _ (y_call rfl rfl rfl cf292 (fun _ w hM => IndexFV_any l g cap p w (hl.below hM.below) hcf fun x hx w1 hb => hA x hx w1 (hM.below.trans (hb.mono hM.below.size)))) ?_
  refine S_ 8 rfl rfl rfl _ (y_bin rfl rfl rfl (fun _ => b_geq)) ?_
  refine S_ 4 rfl rfl rfl _ (y_assign rfl rfl) ?_
  refine S_go (fun _ _ h => h) ?_
  refine T_ret (fun a w hF hM => hRb a w (post1 rfl rfl (fun w hM => ?_) a w hF hM))
  exact ⟨rfl, hM.below⟩
theorem AllR.vers {w0 w : World} {z : AllR} {S : List (List UInt8)} {L : HL} (h : z.Ok w0 S) (hM : Mem w0 L w) (i m : Nat) (hi : L.get i = some (.own 42 5 (.slice z.A z.l.length z.c) z.l.length (z.l.flatMap SVer.enc))) (hm : L.get m = some (.many z.rs)) (hn : z.l.length ≤ 1000000000) : VersR w z.sl :=
  ⟨owned_ok (enc := SVer.enc) hM rfl (i := i) hi, hn, fun v hv => (h.n v hv).at hM m hm⟩
theorem AllR.len {w0 : World} {z : AllR} {S : List (List UInt8)} (h : z.Ok w0 S) : z.l.length ≤ 2000 := by
  have h1 := congrArg List.length h.says
  rw [List.length_map] at h1
  split at h1
  · rename_i h2
    rw [List.length_map] at h1
    have := (all_ok h2).1
    omega
  · rw [h1]; exact Nat.zero_le _
end Go.Proofs.YtpmlgnbbkpplhaaGreatDoor
end
section
namespace Go.Proofs.YtpmlgnbbkpplhaaGreatDoor
set_option linter.unusedSimpArgs false
set_option linter.unusedVariables false
set_option maxRecDepth 20000
open Go.RowKit Go.Eng
structure PSt where
  k : Int
  at_ : Int
  inn : List UInt8
  nx : Bool
  till : Int
  more : Int
  ppl : Int
  again : Int
def PSt.enc (s : PSt) : List Value := [.int .i64 s.k, .int .i64 s.at_, str s.inn, .bool s.nx, .int .i64 s.till, .int .i64 s.more, .int .i64 s.ppl, .int .i64 s.again]
abbrev PSt.val (s : PSt) : Value := .agg #[.int .i64 s.k, .int .i64 s.at_, str s.inn, .bool s.nx, .int .i64 s.till, .int .i64 s.more, .int .i64 s.ppl, .int .i64 s.again]
def stBadA (s : PSt) : Bool := outB s.at_ 0 3155759999 || outB s.till (-1) 3155759999 || outB s.more (-1) 1000000 || outB s.ppl (-1) 1000000 || outB s.again 0 1000000
def stBadB (s : PSt) : Bool := (!decide (s.inn = []) || s.nx) && !decide (s.k = 2) || s.nx && decide (s.inn = []) || (!decide (s.till = -1) || !decide (s.more = -1) || !decide (s.ppl = -1)) && !decide (s.k = 3)
def stNo (s : PSt) : Int := if outB s.k 1 3 = true then 10 else if stBadA s = true then 2 else if (!decide (s.inn = []) && !relOk s.inn) = true then 8 else if stBadB s = true then 1 else 0
theorem CheckState_any (s : PSt) (w : World) : Calls Tryz.prog 109 #[s.val] w fun e w' => e = .returned (.int .i64 (stNo s)) ∧ Below w.heap.size w w' := by
  refine enter_args (args := [.agg #[.int .i64 s.k, .int .i64 s.at_, str s.inn, .bool s.nx, .int .i64 s.till, .int .i64 s.more, .int .i64 s.ppl, .int .i64 s.again]]) (F := _) Tryz.func109 rfl Tryz.ntmps109 rfl rfl ?_
  intro Rb hRb hRn
  refine T_seq ?_
  refine T_region ?_
  refine S_box 1 1 rfl rfl rfl rfl rfl ?_
  intro b1
  refine S_ 2 rfl rfl rfl _ (y_assign rfl rfl) ?_
  refine S_go (fun _ _ h => h) ?_
  refine T_seq ?_
  refine T_seq ?_
  refine T_region ?_
  refine S_ 5 rfl rfl rfl _ (y_fieldAddr rfl rfl fa52_0) ?_
  refine S_ 6 rfl rfl rfl _ (y_load 1 rfl rfl rfl rfl Tryz.underlying3 rfl) ?_
  refine S_ 7 rfl rfl rfl _ (y_call rfl rfl rfl cf87 (fun _ w _ => routside_any _ _ _ w)) ?_
  refine S_go (fun _ _ h => h) ?_
  refine T_cond rfl (fun h7 => ?_) (fun h7 => ?_)
  · skip
    refine T_seq ?_
    refine T_region ?_
    refine S_ 2 rfl rfl rfl _ (y_assign rfl rfl) ?_
    refine S_go (fun _ _ h => h) ?_
    refine T_ret (fun a w hF hM => hRb a w (post1 rfl rfl (fun w hM => ?_) a w hF hM))
    exact ⟨by rw [stNo, if_pos h7], hM.below⟩
  · skip
    refine T_skip_go (fun _ _ h => h) ?_
    refine T_seq ?_
    refine T_seq ?_
    refine T_region ?_
    refine S_ 8 rfl rfl rfl _ (y_fieldAddr rfl rfl fa52_1) ?_
    refine S_ 9 rfl rfl rfl _ (y_load 1 rfl rfl rfl rfl Tryz.underlying3 rfl) ?_
    refine S_ 10 rfl rfl rfl _ (y_call rfl rfl rfl cf87 (fun _ w _ => routside_any _ _ _ w)) ?_
    refine S_ 11 rfl rfl rfl _ (y_move rfl rfl) ?_
    refine Sg_ 12 rfl rfl rfl rfl rfl rfl _ (y_fieldAddr rfl rfl fa52_4) ?_
    refine Sg_ 13 rfl rfl rfl rfl rfl rfl _ (y_load 1 rfl rfl rfl rfl Tryz.underlying3 rfl) ?_
    refine Sg_ 14 rfl rfl rfl rfl rfl rfl _ (y_call rfl rfl rfl cf87 (fun _ w _ => routside_any _ _ _ w)) ?_
    refine S_ 15 rfl rfl rfl _ (y_or rfl rfl rfl) ?_
    refine S_ 16 rfl rfl rfl _ (y_move rfl rfl) ?_
    refine Sg_ 17 rfl rfl rfl rfl rfl rfl _ (y_fieldAddr rfl rfl fa52_5) ?_
    refine Sg_ 18 rfl rfl rfl rfl rfl rfl _ (y_load 1 rfl rfl rfl rfl Tryz.underlying3 rfl) ?_
    refine Sg_ 19 rfl rfl rfl rfl rfl rfl _ (y_call rfl rfl rfl cf87 (fun _ w _ => routside_any _ _ _ w)) ?_
    refine S_ 20 rfl rfl rfl _ (y_or rfl rfl rfl) ?_
    refine S_ 21 rfl rfl rfl _ (y_move rfl rfl) ?_
    refine Sg_ 22 rfl rfl rfl rfl rfl rfl _ (y_fieldAddr rfl rfl fa52_6) ?_
    refine Sg_ 23 rfl rfl rfl rfl rfl rfl _ (y_load 1 rfl rfl rfl rfl Tryz.underlying3 rfl) ?_
    refine Sg_ 24 rfl rfl rfl rfl rfl rfl _ (y_call rfl rfl rfl cf87 (fun _ w _ => routside_any _ _ _ w)) ?_
    refine S_ 25 rfl rfl rfl _ (y_or rfl rfl rfl) ?_
    refine S_ 26 rfl rfl rfl _ (y_move rfl rfl) ?_
    refine Sg_ 27 rfl rfl rfl rfl rfl rfl _ (y_fieldAddr rfl rfl fa52_7) ?_
    refine Sg_ 28 rfl rfl rfl rfl rfl rfl _ (y_load 1 rfl rfl rfl rfl Tryz.underlying3 rfl) ?_
    refine Sg_ 29 rfl rfl rfl rfl rfl rfl _ (y_call rfl rfl rfl cf87 (fun _ w _ => routside_any _ _ _ w)) ?_
    refine S_ 30 rfl rfl rfl _ (y_as (v' := .bool (stBadA s)) (by exact rfl) (y_or rfl rfl rfl)) ?_
    refine S_go (fun _ _ h => h) ?_
    refine T_cond rfl (fun h30 => ?_) (fun h30 => ?_)
    · skip
      refine T_seq ?_
      refine T_region ?_
      refine S_ 2 rfl rfl rfl _ (y_assign rfl rfl) ?_
      refine S_go (fun _ _ h => h) ?_
      refine T_ret (fun a w hF hM => hRb a w (post1 rfl rfl (fun w hM => ?_) a w hF hM))
      exact ⟨by rw [stNo, if_neg (by rw [h7]; simp), if_pos h30], hM.below⟩
    · skip
      refine T_skip_go (fun _ _ h => h) ?_
      refine T_seq ?_
      refine T_seq ?_
      refine T_region ?_
      refine S_ 31 rfl rfl rfl _ (y_fieldAddr rfl rfl fa52_2) ?_
      refine S_ 32 rfl rfl rfl _ (y_load 1 rfl rfl rfl rfl Tryz.underlying9 rfl) ?_
      refine S_ 33 rfl rfl rfl _ (y_bin rfl rfl rfl (fun _ => b_neqs)) ?_
      refine S_go (fun _ _ h => h) ?_
      refine T_cond rfl (fun h33 => ?_) (fun h33 => ?_)
      · skip
        have hin : ¬ s.inn = [] := by simpa using h33
        refine T_seq ?_
        refine T_region ?_
        refine S_ 35 rfl rfl rfl _ (y_fieldAddr rfl rfl fa52_2) ?_
        refine S_ 36 rfl rfl rfl _ (y_load 1 rfl rfl rfl rfl Tryz.underlying9 rfl) ?_
        refine S_callOwn 37 37 rfl rfl rfl rfl rfl rfl rfl cf101 (fun A c => .tuple #[pvV (parseR s.inn).1 A c, .bool (parseR s.inn).2]) 9 1 ((parseR s.inn).1.pre.length) ((parseR s.inn).1.pre.flatMap strE) (fun w hM => parse_any s.inn w) ?_
        intro A37 c37
        refine S_ 34 rfl rfl rfl _ (y_move rfl rfl) ?_
        refine S_ 38 rfl rfl rfl _ (y_extract rfl rfl rfl) ?_
        refine S_ 39 rfl rfl rfl _ (y_extract rfl rfl rfl) ?_
        refine S_alloc 3 3 rfl rfl rfl rfl z42 ?_
        intro b3
        refine S_store 3 rfl rfl rfl rfl rfl rfl sz42 rfl rfl ?_
        refine S_ 4 rfl rfl rfl _ (y_assign rfl rfl) ?_
        refine S_go (fun _ _ h => h) ?_
        refine T_seq ?_
        refine T_region ?_
        refine S_ 40 rfl rfl rfl _ (y_move rfl rfl) ?_
        refine S_ 41 rfl rfl rfl _ (y_not rfl rfl) ?_
        refine S_go (fun _ _ h => h) ?_
        refine T_cond rfl (fun h41 => ?_) (fun h41 => ?_)
        · skip
          have hr : relOk s.inn = false := by simpa using h41
          refine T_seq ?_
          refine T_region ?_
          refine S_ 2 rfl rfl rfl _ (y_assign rfl rfl) ?_
          refine S_go (fun _ _ h => h) ?_
          refine T_ret (fun a w hF hM => hRb a w (post1 rfl rfl (fun w hM => ?_) a w hF hM))
          exact ⟨by rw [stNo, if_neg (by rw [h7]; simp), if_neg (by rw [h30]; simp), if_pos (by simp [hin, hr])], hM.below⟩
        · skip
          have hr : relOk s.inn = true := by simpa using h41
          refine T_skip_go (fun _ _ h => h) ?_
          refine T_seq ?_
          refine T_seq ?_
          refine T_region ?_
          refine S_ 42 rfl rfl rfl _ (y_fieldAddr rfl rfl fa52_2) ?_
          refine S_ 43 rfl rfl rfl _ (y_load 1 rfl rfl rfl rfl Tryz.underlying9 rfl) ?_
          refine S_ 44 rfl rfl rfl _ (y_bin rfl rfl rfl (fun _ => b_neqs)) ?_
          refine S_ 45 rfl rfl rfl _ (y_move rfl rfl) ?_
          refine Sg_ 46 rfl rfl rfl rfl rfl rfl _ (y_fieldAddr rfl rfl fa52_3) ?_
          refine Sg_ 47 rfl rfl rfl rfl rfl rfl _ (y_load 1 rfl rfl rfl rfl Tryz.underlying4 rfl) ?_
          refine S_ 48 rfl rfl rfl _ (y_or rfl rfl rfl) ?_
          refine S_ 49 rfl rfl rfl _ (y_move rfl rfl) ?_
          refine Sg_ 50 rfl rfl rfl rfl rfl rfl _ (y_fieldAddr rfl rfl fa52_0) ?_
          refine Sg_ 51 rfl rfl rfl rfl rfl rfl _ (y_load 1 rfl rfl rfl rfl Tryz.underlying3 rfl) ?_
          refine Sg_ 52 rfl rfl rfl rfl rfl rfl _ (y_bin rfl rfl rfl (fun _ => b_neq)) ?_
          refine S_ 53 rfl rfl rfl _ (y_and rfl rfl rfl) ?_
          refine S_ 54 rfl rfl rfl _ (y_move rfl rfl) ?_
          refine Sg_ 55 rfl rfl rfl rfl rfl rfl _ (y_fieldAddr rfl rfl fa52_3) ?_
          refine Sg_ 56 rfl rfl rfl rfl rfl rfl _ (y_load 1 rfl rfl rfl rfl Tryz.underlying4 rfl) ?_
          refine Sg_ 57 rfl rfl rfl rfl rfl rfl _ (y_move rfl rfl) ?_
          refine Sg_ 58 rfl rfl rfl rfl rfl rfl _ (y_fieldAddr rfl rfl fa52_2) ?_
          refine Sg_ 59 rfl rfl rfl rfl rfl rfl _ (y_load 1 rfl rfl rfl rfl Tryz.underlying9 rfl) ?_
          refine Sg_ 60 rfl rfl rfl rfl rfl rfl _ (y_bin rfl rfl rfl (fun _ => b_eqls)) ?_
          refine Sg_ 61 rfl rfl rfl rfl rfl rfl _ (y_and rfl rfl rfl) ?_
          refine S_ 62 rfl rfl rfl _ (y_or rfl rfl rfl) ?_
          refine S_ 63 rfl rfl rfl _ (y_move rfl rfl) ?_
          refine Sg_ 64 rfl rfl rfl rfl rfl rfl _ (y_fieldAddr rfl rfl fa52_4) ?_
          refine Sg_ 65 rfl rfl rfl rfl rfl rfl _ (y_load 1 rfl rfl rfl rfl Tryz.underlying3 rfl) ?_
          refine Sg_ 66 rfl rfl rfl rfl rfl rfl _ (y_bin rfl rfl rfl (fun _ => b_neq)) ?_
          refine Sg_ 67 rfl rfl rfl rfl rfl rfl _ (y_move rfl rfl) ?_
          refine Sg_ 68 rfl rfl rfl rfl rfl rfl _ (y_fieldAddr rfl rfl fa52_5) ?_
          refine Sg_ 69 rfl rfl rfl rfl rfl rfl _ (y_load 1 rfl rfl rfl rfl Tryz.underlying3 rfl) ?_
          refine Sg_ 70 rfl rfl rfl rfl rfl rfl _ (y_bin rfl rfl rfl (fun _ => b_neq)) ?_
          refine Sg_ 71 rfl rfl rfl rfl rfl rfl _ (y_or rfl rfl rfl) ?_
          refine Sg_ 72 rfl rfl rfl rfl rfl rfl _ (y_move rfl rfl) ?_
          refine Sg_ 73 rfl rfl rfl rfl rfl rfl _ (y_fieldAddr rfl rfl fa52_6) ?_
          refine Sg_ 74 rfl rfl rfl rfl rfl rfl _ (y_load 1 rfl rfl rfl rfl Tryz.underlying3 rfl) ?_
          refine Sg_ 75 rfl rfl rfl rfl rfl rfl _ (y_bin rfl rfl rfl (fun _ => b_neq)) ?_
          refine Sg_ 76 rfl rfl rfl rfl rfl rfl _ (y_or rfl rfl rfl) ?_
          refine Sg_ 77 rfl rfl rfl rfl rfl rfl _ (y_move rfl rfl) ?_
          refine Sg_ 78 rfl rfl rfl rfl rfl rfl _ (y_fieldAddr rfl rfl fa52_0) ?_
          refine Sg_ 79 rfl rfl rfl rfl rfl rfl _ (y_load 1 rfl rfl rfl rfl Tryz.underlying3 rfl) ?_
          refine Sg_ 80 rfl rfl rfl rfl rfl rfl _ (y_bin rfl rfl rfl (fun _ => b_neq)) ?_
          refine Sg_ 81 rfl rfl rfl rfl rfl rfl _ (y_and rfl rfl rfl) ?_
          refine S_ 82 rfl rfl rfl _ (y_as (v' := .bool (stBadB s)) (by exact rfl) (y_or rfl rfl rfl)) ?_
          refine S_go (fun _ _ h => h) ?_
          refine T_cond rfl (fun h82 => ?_) (fun h82 => ?_)
          · skip
            refine T_seq ?_
            refine T_region ?_
            refine S_ 2 rfl rfl rfl _ (y_assign rfl rfl) ?_
            refine S_go (fun _ _ h => h) ?_
            refine T_ret (fun a w hF hM => hRb a w (post1 rfl rfl (fun w hM => ?_) a w hF hM))
            exact ⟨by rw [stNo, if_neg (by rw [h7]; simp), if_neg (by rw [h30]; simp), if_neg (by simp [hr]), if_pos h82], hM.below⟩
          · skip
            refine T_skip_go (fun _ _ h => h) ?_
            refine T_seq ?_
            refine T_region ?_
            refine S_ 2 rfl rfl rfl _ (y_assign rfl rfl) ?_
            refine S_go (fun _ _ h => h) ?_
            refine T_ret (fun a w hF hM => hRb a w (post1 rfl rfl (fun w hM => ?_) a w hF hM))
            exact ⟨by rw [stNo, if_neg (by rw [h7]; simp), if_neg (by rw [h30]; simp), if_neg (by simp [hr]), if_neg (by rw [h82]; simp)], hM.below⟩
      · skip
        have hin : s.inn = [] := by simpa using h33
        refine T_skip_go (fun _ _ h => h) ?_
        refine T_seq ?_
        refine T_seq ?_
        refine T_region ?_
        refine S_ 42 rfl rfl rfl _ (y_fieldAddr rfl rfl fa52_2) ?_
        refine S_ 43 rfl rfl rfl _ (y_load 1 rfl rfl rfl rfl Tryz.underlying9 rfl) ?_
        refine S_ 44 rfl rfl rfl _ (y_bin rfl rfl rfl (fun _ => b_neqs)) ?_
        refine S_ 45 rfl rfl rfl _ (y_move rfl rfl) ?_
        refine Sg_ 46 rfl rfl rfl rfl rfl rfl _ (y_fieldAddr rfl rfl fa52_3) ?_
        refine Sg_ 47 rfl rfl rfl rfl rfl rfl _ (y_load 1 rfl rfl rfl rfl Tryz.underlying4 rfl) ?_
        refine S_ 48 rfl rfl rfl _ (y_or rfl rfl rfl) ?_
        refine S_ 49 rfl rfl rfl _ (y_move rfl rfl) ?_
        refine Sg_ 50 rfl rfl rfl rfl rfl rfl _ (y_fieldAddr rfl rfl fa52_0) ?_
        refine Sg_ 51 rfl rfl rfl rfl rfl rfl _ (y_load 1 rfl rfl rfl rfl Tryz.underlying3 rfl) ?_
        refine Sg_ 52 rfl rfl rfl rfl rfl rfl _ (y_bin rfl rfl rfl (fun _ => b_neq)) ?_
        refine S_ 53 rfl rfl rfl _ (y_and rfl rfl rfl) ?_
        refine S_ 54 rfl rfl rfl _ (y_move rfl rfl) ?_
        refine Sg_ 55 rfl rfl rfl rfl rfl rfl _ (y_fieldAddr rfl rfl fa52_3) ?_
        refine Sg_ 56 rfl rfl rfl rfl rfl rfl _ (y_load 1 rfl rfl rfl rfl Tryz.underlying4 rfl) ?_
        refine Sg_ 57 rfl rfl rfl rfl rfl rfl _ (y_move rfl rfl) ?_
        refine Sg_ 58 rfl rfl rfl rfl rfl rfl _ (y_fieldAddr rfl rfl fa52_2) ?_
        refine Sg_ 59 rfl rfl rfl rfl rfl rfl _ (y_load 1 rfl rfl rfl rfl Tryz.underlying9 rfl) ?_
        refine Sg_ 60 rfl rfl rfl rfl rfl rfl _ (y_bin rfl rfl rfl (fun _ => b_eqls)) ?_
        refine Sg_ 61 rfl rfl rfl rfl rfl rfl _ (y_and rfl rfl rfl) ?_
        refine S_ 62 rfl rfl rfl _ (y_or rfl rfl rfl) ?_
        refine S_ 63 rfl rfl rfl _ (y_move rfl rfl) ?_
        refine Sg_ 64 rfl rfl rfl rfl rfl rfl _ (y_fieldAddr rfl rfl fa52_4) ?_
        refine Sg_ 65 rfl rfl rfl rfl rfl rfl _ (y_load 1 rfl rfl rfl rfl Tryz.underlying3 rfl) ?_
        refine Sg_ 66 rfl rfl rfl rfl rfl rfl _ (y_bin rfl rfl rfl (fun _ => b_neq)) ?_
        refine Sg_ 67 rfl rfl rfl rfl rfl rfl _ (y_move rfl rfl) ?_
        refine Sg_ 68 rfl rfl rfl rfl rfl rfl _ (y_fieldAddr rfl rfl fa52_5) ?_
        refine Sg_ 69 rfl rfl rfl rfl rfl rfl _ (y_load 1 rfl rfl rfl rfl Tryz.underlying3 rfl) ?_
        refine Sg_ 70 rfl rfl rfl rfl rfl rfl _ (y_bin rfl rfl rfl (fun _ => b_neq)) ?_
        refine Sg_ 71 rfl rfl rfl rfl rfl rfl _ (y_or rfl rfl rfl) ?_
        refine Sg_ 72 rfl rfl rfl rfl rfl rfl _ (y_move rfl rfl) ?_
        refine Sg_ 73 rfl rfl rfl rfl rfl rfl _ (y_fieldAddr rfl rfl fa52_6) ?_
        refine Sg_ 74 rfl rfl rfl rfl rfl rfl _ (y_load 1 rfl rfl rfl rfl Tryz.underlying3 rfl) ?_
        refine Sg_ 75 rfl rfl rfl rfl rfl rfl _ (y_bin rfl rfl rfl (fun _ => b_neq)) ?_
        refine Sg_ 76 rfl rfl rfl rfl rfl rfl _ (y_or rfl rfl rfl) ?_
        refine Sg_ 77 rfl rfl rfl rfl rfl rfl _ (y_move rfl rfl) ?_
        refine Sg_ 78 rfl rfl rfl rfl rfl rfl _ (y_fieldAddr rfl rfl fa52_0) ?_
        refine Sg_ 79 rfl rfl rfl rfl rfl rfl _ (y_load 1 rfl rfl rfl rfl Tryz.underlying3 rfl) ?_
        refine Sg_ 80 rfl rfl rfl rfl rfl rfl _ (y_bin rfl rfl rfl (fun _ => b_neq)) ?_
        refine Sg_ 81 rfl rfl rfl rfl rfl rfl _ (y_and rfl rfl rfl) ?_
        refine S_ 82 rfl rfl rfl _ (y_as (v' := .bool (stBadB s)) (by exact rfl) (y_or rfl rfl rfl)) ?_
        refine S_go (fun _ _ h => h) ?_
        refine T_cond rfl (fun h82 => ?_) (fun h82 => ?_)
        · skip
          refine T_seq ?_
          refine T_region ?_
          refine S_ 2 rfl rfl rfl _ (y_assign rfl rfl) ?_
          refine S_go (fun _ _ h => h) ?_
          refine T_ret (fun a w hF hM => hRb a w (post1 rfl rfl (fun w hM => ?_) a w hF hM))
          exact ⟨by rw [stNo, if_neg (by rw [h7]; simp), if_neg (by rw [h30]; simp), if_neg (by simp [hin]), if_pos h82], hM.below⟩
        · skip
          refine T_skip_go (fun _ _ h => h) ?_
          refine T_seq ?_
          refine T_region ?_
          refine S_ 2 rfl rfl rfl _ (y_assign rfl rfl) ?_
          refine S_go (fun _ _ h => h) ?_
          refine T_ret (fun a w hF hM => hRb a w (post1 rfl rfl (fun w hM => ?_) a w hF hM))
          exact ⟨by rw [stNo, if_neg (by rw [h7]; simp), if_neg (by rw [h30]; simp), if_neg (by simp [hin]), if_neg (by rw [h82]; simp)], hM.below⟩
def beyB (i v : PVer) (nx : Bool) : Bool := decide (v.p = i.p) && (decide (0 < cmpV v i) || decide (cmpV v i = 0) && !nx)
/-- a block's cells, as they stand for good -/
abbrev CellsAt (w : World) (b : Nat) (cs : List Value) : Prop := (∀ j u, cs[j]? = some u → w.cell? ((⟨b, 0, none⟩ : Addr).add j) = some u) ∧ b < w.heap.size
theorem CellsAt.one {w : World} {b j : Nat} {cs : List Value} {u : Value} (h : CellsAt w b cs) (hj : cs[j]? = some u) : w.cell? ((⟨b, 0, none⟩ : Addr).add j) = some u ∧ ((⟨b, 0, none⟩ : Addr).add j).block < w.heap.size := ⟨h.1 j u hj, by rw [block_of_add]; exact h.2⟩
theorem comesBack1_any (x i : SVer) (s : PSt) (b1 b2 : Nat) (w : World) (hx : VerOk w x) (hi : VerOk w i) (h1 : CellsAt w b1 i.enc) (h2 : CellsAt w b2 s.enc) :
    Calls Tryz.prog 244 #[x.val, .pointer (some ⟨b1, 0, none⟩), .pointer (some ⟨b2, 0, none⟩)] w fun e w' => e = .returned (.bool (beyB i.says x.says s.nx)) ∧ Below w.heap.size w w' := by
  refine enter_args (args := [.agg #[str x.p, .int .i64 x.a, .int .i64 x.b, .int .i64 x.c, .slice x.pre.A x.pre.q x.pre.c], .pointer (some ⟨b1, 0, none⟩), .pointer (some ⟨b2, 0, none⟩)]) (F := _) Tryz.func244 rfl Tryz.ntmps244 rfl rfl ?_
  intro Rb hRb hRn
  refine T_seq ?_
  refine T_region ?_
  refine S_box 3 3 rfl rfl rfl rfl rfl ?_
  intro b3
  refine S_ 4 rfl rfl rfl _ (y_assign rfl rfl) ?_
  refine S_go (fun _ _ h => h) ?_
  refine T_seq ?_
  refine T_region ?_
  refine S_ 6 rfl rfl rfl _ (y_loadA 3 rfl rfl rfl Tryz.underlying42 rfl sz42) ?_
  refine S_ 7 rfl rfl rfl _ (y_loadA_far rfl rfl h1.1 h1.2 Tryz.underlying42 rfl sz42) ?_
  refine S_ 8 rfl rfl rfl _ (y_call rfl rfl rfl cf22 (fun _ w hM => Compare_any x i w (hx.below hM.below) (hi.below hM.below))) ?_
  refine S_ 5 rfl rfl rfl _ (y_assign rfl rfl) ?_
  refine S_go (fun _ _ h => h) ?_
  refine T_seq ?_
  refine T_region ?_
  refine S_ 9 rfl rfl rfl _ (y_fieldAddr rfl rfl fa42_0) ?_
  refine S_ 10 rfl rfl rfl _ (y_load 3 rfl rfl rfl rfl Tryz.underlying9 rfl) ?_
  refine S_ 11 rfl rfl rfl _ (y_fieldAddr rfl rfl fa42_0) ?_
  refine S_ 12 rfl rfl rfl _ (y_load_far rfl rfl (h1.one (j := 0) rfl).1 (h1.one (j := 0) (cs := i.enc) rfl).2 Tryz.underlying9 rfl) ?_
  refine S_ 13 rfl rfl rfl _ (y_bin rfl rfl rfl (fun _ => b_eqls)) ?_
  refine S_ 14 rfl rfl rfl _ (y_move rfl rfl) ?_
  refine Sg_ 15 rfl rfl rfl rfl rfl rfl _ (y_move rfl rfl) ?_
  refine Sg_ 16 rfl rfl rfl rfl rfl rfl _ (y_bin rfl rfl rfl (fun _ => b_gtr)) ?_
  refine Sg_ 17 rfl rfl rfl rfl rfl rfl _ (y_move rfl rfl) ?_
  refine Sg_ 18 rfl rfl rfl rfl rfl rfl _ (y_move rfl rfl) ?_
  refine Sg_ 19 rfl rfl rfl rfl rfl rfl _ (y_bin rfl rfl rfl (fun _ => b_eql)) ?_
  refine Sg_ 20 rfl rfl rfl rfl rfl rfl _ (y_move rfl rfl) ?_
  refine Sg_ 21 rfl rfl rfl rfl rfl rfl _ (y_fieldAddr rfl rfl fa52_3) ?_
  refine Sg_ 22 rfl rfl rfl rfl rfl rfl _ (y_load_far rfl rfl (h2.one (j := 3) rfl).1 (h2.one (j := 3) (cs := s.enc) rfl).2 Tryz.underlying4 rfl) ?_
  refine Sg_ 23 rfl rfl rfl rfl rfl rfl _ (y_not rfl rfl) ?_
  refine Sg_ 24 rfl rfl rfl rfl rfl rfl _ (y_and rfl rfl rfl) ?_
  refine Sg_ 25 rfl rfl rfl rfl rfl rfl _ (y_or rfl rfl rfl) ?_
  refine S_ 26 rfl rfl rfl _ (y_and rfl rfl rfl) ?_
  refine S_ 4 rfl rfl rfl _ (y_assign rfl rfl) ?_
  refine S_go (fun _ _ h => h) ?_
  refine T_ret (fun a w hF hM => hRb a w (post1 rfl rfl (fun w hM => ?_) a w hF hM))
  exact ⟨rfl, hM.below⟩
def comesB (s : PSt) (at_ : Int) (rel : List UInt8) (vs : List PVer) : Bool :=
  if relOk s.inn = false then decide (s.at_ < at_)
  else if (relOk rel && decide ((verV rel).p = (verV s.inn).p)) = true then decide (0 < cmpV (verV rel) (verV s.inn)) || decide (cmpV (verV rel) (verV s.inn) = 0) && !s.nx
  else decide (s.at_ < at_) && vs.any fun v => beyB (verV s.inn) v s.nx
set_option maxHeartbeats 1600000 in
theorem comesBack_any (s : PSt) (e : Evt) (vs : Sl SVer) (w : World) (hv : VersR w vs) :
    Calls Tryz.prog 205 #[s.val, e.val, .slice vs.A vs.q vs.c] w fun en w' => en = .returned (.bool (comesB s e.at_ e.rel (vs.l.map SVer.says))) ∧ Below w.heap.size w w' := by
  refine enter_args (args := [.agg #[.int .i64 s.k, .int .i64 s.at_, str s.inn, .bool s.nx, .int .i64 s.till, .int .i64 s.more, .int .i64 s.ppl, .int .i64 s.again], .agg #[str e.id, .int .i64 e.at_, .int .i64 e.lv, .slice e.fa.A e.fa.q e.fa.c, .slice e.ta.A e.ta.q e.ta.c, .slice e.cr.A e.cr.q e.cr.c, str e.rel, str e.us, .int .i64 e.wt], .slice vs.A vs.q vs.c]) (F := _) Tryz.func205 rfl Tryz.ntmps205 rfl rfl ?_
  intro Rb hRb hRn
  refine T_seq ?_
  refine T_region ?_
  refine S_box 3 3 rfl rfl rfl rfl rfl ?_
  intro b3
  refine S_box 4 4 rfl rfl rfl rfl rfl ?_
  intro b4
  refine S_ 6 rfl rfl rfl _ (y_assign rfl rfl) ?_
  refine S_go (fun _ _ h => h) ?_
  refine T_seq ?_
  refine T_region ?_
  refine S_ 13 rfl rfl rfl _ (y_fieldAddr rfl rfl fa29_1) ?_
  refine S_ 14 rfl rfl rfl _ (y_load 4 rfl rfl rfl rfl Tryz.underlying3 rfl) ?_
  refine S_ 15 rfl rfl rfl _ (y_fieldAddr rfl rfl fa52_1) ?_
  refine S_ 16 rfl rfl rfl _ (y_load 3 rfl rfl rfl rfl Tryz.underlying3 rfl) ?_
  refine S_ 17 rfl rfl rfl _ (y_bin rfl rfl rfl (fun _ => b_gtr)) ?_
  refine S_ 7 rfl rfl rfl _ (y_assign rfl rfl) ?_
  refine S_go (fun _ _ h => h) ?_
  refine T_seq ?_
  refine T_region ?_
  refine S_ 19 rfl rfl rfl _ (y_fieldAddr rfl rfl fa52_2) ?_
  refine S_ 20 rfl rfl rfl _ (y_load 3 rfl rfl rfl rfl Tryz.underlying9 rfl) ?_
  refine S_callOwn 21 21 rfl rfl rfl rfl rfl rfl rfl cf101 (fun A c => .tuple #[pvV (parseR s.inn).1 A c, .bool (parseR s.inn).2]) 9 1 ((parseR s.inn).1.pre.length) ((parseR s.inn).1.pre.flatMap strE) (fun w hM => parse_any s.inn w) ?_
  intro A21 c21
  refine S_ 18 rfl rfl rfl _ (y_move rfl rfl) ?_
  refine S_ 22 rfl rfl rfl _ (y_extract rfl rfl rfl) ?_
  refine S_ 23 rfl rfl rfl _ (y_extract rfl rfl rfl) ?_
  refine S_alloc 8 8 rfl rfl rfl rfl z42 ?_
  intro b8
  refine S_store 8 rfl rfl rfl rfl rfl rfl sz42 rfl rfl ?_
  refine S_ 9 rfl rfl rfl _ (y_assign rfl rfl) ?_
  refine S_go (fun _ _ h => h) ?_
  refine T_seq ?_
  refine T_seq ?_
  refine T_region ?_
  refine S_ 24 rfl rfl rfl _ (y_move rfl rfl) ?_
  refine S_ 25 rfl rfl rfl _ (y_not rfl rfl) ?_
  refine S_go (fun _ _ h => h) ?_
  refine T_cond rfl (fun h25 => ?_) (fun h25 => ?_)
  · skip
    have hin : relOk s.inn = false := by simpa using h25
    refine T_seq ?_
    refine T_region ?_
    refine S_ 26 rfl rfl rfl _ (y_move rfl rfl) ?_
    refine S_ 6 rfl rfl rfl _ (y_assign rfl rfl) ?_
    refine S_go (fun _ _ h => h) ?_
    refine T_ret (fun a w hF hM => hRb a w (post1 rfl rfl (fun w hM => ?_) a w hF hM))
    exact ⟨by rw [comesB, if_pos hin], hM.below⟩
  · skip
    have hin : relOk s.inn = true := by simpa using h25
    refine T_skip_go (fun _ _ h => h) ?_
    refine T_seq ?_
    refine T_seq ?_
    refine T_region ?_
    refine S_ 28 rfl rfl rfl _ (y_fieldAddr rfl rfl fa29_6) ?_
    refine S_ 29 rfl rfl rfl _ (y_load 4 rfl rfl rfl rfl Tryz.underlying9 rfl) ?_
    refine S_callOwn 30 30 rfl rfl rfl rfl rfl rfl rfl cf101 (fun A c => .tuple #[pvV (parseR e.rel).1 A c, .bool (parseR e.rel).2]) 9 1 ((parseR e.rel).1.pre.length) ((parseR e.rel).1.pre.flatMap strE) (fun w hM => parse_any e.rel w) ?_
    intro A30 c30
    refine S_ 27 rfl rfl rfl _ (y_move rfl rfl) ?_
    refine S_ 31 rfl rfl rfl _ (y_extract rfl rfl rfl) ?_
    refine S_ 32 rfl rfl rfl _ (y_extract rfl rfl rfl) ?_
    refine S_alloc 10 10 rfl rfl rfl rfl z42 ?_
    intro b10
    refine S_store 10 rfl rfl rfl rfl rfl rfl sz42 rfl rfl ?_
    refine S_ 11 rfl rfl rfl _ (y_assign rfl rfl) ?_
    refine S_go (fun _ _ h => h) ?_
    refine T_seq ?_
    refine T_region ?_
    refine S_ 33 rfl rfl rfl _ (y_move rfl rfl) ?_
    refine S_ 34 rfl rfl rfl _ (y_move rfl rfl) ?_
    refine Sg_ 35 rfl rfl rfl rfl rfl rfl _ (y_fieldAddr rfl rfl fa42_0) ?_
    refine Sg_ 36 rfl rfl rfl rfl rfl rfl _ (y_load 10 rfl rfl rfl rfl Tryz.underlying9 rfl) ?_
    refine Sg_ 37 rfl rfl rfl rfl rfl rfl _ (y_fieldAddr rfl rfl fa42_0) ?_
    refine Sg_ 38 rfl rfl rfl rfl rfl rfl _ (y_load 8 rfl rfl rfl rfl Tryz.underlying9 rfl) ?_
    refine Sg_ 39 rfl rfl rfl rfl rfl rfl _ (y_bin rfl rfl rfl (fun _ => b_eqls)) ?_
    refine S_ 40 rfl rfl rfl _ (y_as (v' := .bool (relOk e.rel && decide ((verV e.rel).p = (verV s.inn).p))) (by exact congrArg Value.bool (by
      cases hq : relOk e.rel with
      | false => simp [show (parseR e.rel).2 = false from hq]
      | true => simp [show (parseR e.rel).2 = true from hq, parse_ver hq, parse_ver hin])) (y_and rfl rfl rfl)) ?_
    refine S_go (fun _ _ h => h) ?_
    refine T_cond rfl (fun h40 => ?_) (fun h40 => ?_)
    · skip
      have hrl : relOk e.rel = true := by simp only [Bool.and_eq_true] at h40; exact h40.1
      refine T_seq ?_
      refine T_region ?_
      refine S_ 41 rfl rfl rfl _ (y_loadA 10 rfl rfl rfl Tryz.underlying42 rfl sz42) ?_
      refine S_ 42 rfl rfl rfl _ (y_loadA 8 rfl rfl rfl Tryz.underlying42 rfl sz42) ?_
      refine S_ 43 rfl rfl rfl _ (y_call rfl rfl rfl cf22 (fun _ w hM => Compare_any (svr (parseR e.rel).1 A30 c30) (svr (parseR s.inn).1 A21 c21) w (svr_ok (parseR_bound _) (owned_ok (enc := strE) hM rfl (i := 30) rfl)) (svr_ok (parseR_bound _) (owned_ok (enc := strE) hM rfl (i := 21) rfl)))) ?_
      refine S_ 12 rfl rfl rfl _ (y_assign rfl rfl) ?_
      refine S_go (fun _ _ h => h) ?_
      refine T_seq ?_
      refine T_region ?_
      refine S_ 44 rfl rfl rfl _ (y_move rfl rfl) ?_
      refine S_ 45 rfl rfl rfl _ (y_bin rfl rfl rfl (fun _ => b_gtr)) ?_
      refine S_ 46 rfl rfl rfl _ (y_move rfl rfl) ?_
      refine Sg_ 47 rfl rfl rfl rfl rfl rfl _ (y_move rfl rfl) ?_
      refine Sg_ 48 rfl rfl rfl rfl rfl rfl _ (y_bin rfl rfl rfl (fun _ => b_eql)) ?_
      refine Sg_ 49 rfl rfl rfl rfl rfl rfl _ (y_move rfl rfl) ?_
      refine Sg_ 50 rfl rfl rfl rfl rfl rfl _ (y_fieldAddr rfl rfl fa52_3) ?_
      refine Sg_ 51 rfl rfl rfl rfl rfl rfl _ (y_load 3 rfl rfl rfl rfl Tryz.underlying4 rfl) ?_
      refine Sg_ 52 rfl rfl rfl rfl rfl rfl _ (y_not rfl rfl) ?_
      refine Sg_ 53 rfl rfl rfl rfl rfl rfl _ (y_and rfl rfl rfl) ?_
      refine S_ 54 rfl rfl rfl _ (y_or rfl rfl rfl) ?_
      refine S_ 6 rfl rfl rfl _ (y_assign rfl rfl) ?_
      refine S_go (fun _ _ h => h) ?_
      refine T_ret (fun a w hF hM => hRb a w (post1 rfl rfl (fun w hM => ?_) a w hF hM))
      exact ⟨by rw [comesB, if_neg (by rw [hin]; simp), if_pos h40, svr_says, svr_says, parse_ver hrl, parse_ver hin], hM.below⟩
    · skip
      refine T_skip_go (fun _ _ h => h) ?_
      refine T_seq ?_
      refine T_region ?_
      refine S_ 55 rfl rfl rfl _ (y_move rfl rfl) ?_
      refine S_ 56 rfl rfl rfl _ (y_move rfl rfl) ?_
      refine Sg_ 57 rfl rfl rfl rfl rfl rfl _ (y_move rfl rfl) ?_
      refine Sg_ 58 rfl rfl rfl rfl rfl rfl _ (y_makeFunc rfl rfl rfl rfl rfl) ?_
      refine Sg_ 59 rfl rfl rfl rfl rfl rfl _ (y_call rfl rfl rfl cf243 (fun _ w hM => ContFV_any vs _ _ (fun x => beyB (parseR s.inn).1 x.says s.nx) w (hv.below hM.below) cf244 (fun x hx w1 hb => comesBack1_any x (svr (parseR s.inn).1 A21 c21) s b8 b3 w1 (((hv.n x hx).below hM.below).below hb) (svr_ok (parseR_bound _) ((owned_ok (enc := strE) hM rfl (i := 21) rfl).below hb)) (cells_below (hM.box_cells 8 rfl) hb) (cells_below (hM.box_cells 3 rfl) hb)))) ?_
      refine S_ 60 rfl rfl rfl _ (y_and rfl rfl rfl) ?_
      refine S_ 6 rfl rfl rfl _ (y_assign rfl rfl) ?_
      refine S_go (fun _ _ h => h) ?_
      refine T_ret (fun a w hF hM => hRb a w (post1 rfl rfl (fun w hM => ?_) a w hF hM))
      exact ⟨by rw [comesB, if_neg (by rw [hin]; simp), if_neg (by rw [h40]; simp), List.any_map, parse_ver hin]; rfl, hM.below⟩
def opened (s : PSt) (at_ : Int) : PSt := ⟨1, at_, [], false, -1, -1, -1, min (s.again + 1) 1000000⟩
def lessM (s : PSt) (wt : Int) : PSt := if s.more ≠ -1 then ⟨s.k, s.at_, s.inn, s.nx, s.till, max (s.more - wt) 0, s.ppl, s.again⟩ else s
def ignB (s : PSt) (at_ ppl : Int) : Bool := !decide (s.till = -1) && decide (s.till < at_) || decide (s.more = 0) || !decide (s.ppl = -1) && decide (s.ppl ≤ ppl)
def againB (s : PSt) (at_ : Int) (rel : List UInt8) (wt : Int) (vs : List PVer) (ppl : Int) : Bool := if s.k = 2 then comesB s at_ rel vs else if s.k = 3 then ignB (lessM s wt) at_ ppl else false
def afterS (s : PSt) (at_ : Int) (rel : List UInt8) (wt : Int) (vs : List PVer) (ppl : Int) : PSt := if againB s at_ rel wt vs ppl = true then opened s at_ else if s.k = 3 then lessM s wt else s
structure StNum (s : PSt) (wt : Int) : Prop where
  a : 0 ≤ s.again ∧ s.again ≤ 1000000
  m : -1 ≤ s.more ∧ s.more ≤ 1000000
  w : 1 ≤ wt ∧ wt ≤ 1000000
set_option maxHeartbeats 1600000 in
theorem after_any (s : PSt) (e : Evt) (vs : Sl SVer) (ppl : Int) (w : World) (hv : VersR w vs) (hn : StNum s e.wt) :
    Calls Tryz.prog 111 #[s.val, e.val, .slice vs.A vs.q vs.c, .int .i64 ppl] w fun en w' => en = .returned (afterS s e.at_ e.rel e.wt (vs.l.map SVer.says) ppl).val ∧ Below w.heap.size w w' := by
  obtain ⟨ha, hm, hw⟩ := hn
  refine enter_args (args := [.agg #[.int .i64 s.k, .int .i64 s.at_, str s.inn, .bool s.nx, .int .i64 s.till, .int .i64 s.more, .int .i64 s.ppl, .int .i64 s.again], .agg #[str e.id, .int .i64 e.at_, .int .i64 e.lv, .slice e.fa.A e.fa.q e.fa.c, .slice e.ta.A e.ta.q e.ta.c, .slice e.cr.A e.cr.q e.cr.c, str e.rel, str e.us, .int .i64 e.wt], .slice vs.A vs.q vs.c, .int .i64 ppl]) (F := _) Tryz.func111 rfl Tryz.ntmps111 rfl rfl ?_
  intro Rb hRb hRn
  refine T_seq ?_
  refine T_region ?_
  refine S_box 4 4 rfl rfl rfl rfl rfl ?_
  intro b4
  refine S_box 5 5 rfl rfl rfl rfl rfl ?_
  intro b5
  refine S_alloc 8 8 rfl rfl rfl rfl z52 ?_
  intro b8
  refine S_go (fun _ _ h => h) ?_
  refine T_seq ?_
  refine T_region ?_
  refine S_ 10 rfl rfl rfl _ (y_fieldAddr rfl rfl fa29_1) ?_
  refine S_ 11 rfl rfl rfl _ (y_load 5 rfl rfl rfl rfl Tryz.underlying3 rfl) ?_
  refine S_ 12 rfl rfl rfl _ (y_fieldAddr rfl rfl fa52_7) ?_
  refine S_ 13 rfl rfl rfl _ (y_load 4 rfl rfl rfl rfl Tryz.underlying3 rfl) ?_
  refine S_ 14 rfl rfl rfl _ (y_bin rfl rfl rfl (fun hg => b_add (by omega))) ?_
  refine S_ 15 rfl rfl rfl _ (y_as (v' := .int .i64 (min (s.again + 1) 1000000)) (by congr 1; omega) (y_min rfl rfl rfl)) ?_
  refine S_ 16 rfl rfl rfl _ (y_build (zv := .agg #[.int .i64 0, .int .i64 0, .string ⟨#[]⟩, .bool false, .int .i64 0, .int .i64 0, .int .i64 0, .int .i64 0]) (pl := [(0, 1), (1, 1), (2, 1), (3, 1), (4, 1), (5, 1), (6, 1), (7, 1)]) (out := [_, _, .string ⟨#[]⟩, .bool false, _, _, _, _]) rfl rfl Tryz.underlying52 z52 (by kernel_rfl) rfl) ?_
  refine S_alloc 9 9 rfl rfl rfl rfl z52 ?_
  intro b9
  refine S_store 9 rfl rfl rfl rfl rfl rfl sz52 rfl rfl ?_
  refine S_go (fun _ _ h => h) ?_
  refine T_seq ?_
  refine T_seq ?_
  refine T_region ?_
  refine S_ 17 rfl rfl rfl _ (y_fieldAddr rfl rfl fa52_0) ?_
  refine S_ 18 rfl rfl rfl _ (y_load 4 rfl rfl rfl rfl Tryz.underlying3 rfl) ?_
  refine S_go (fun _ _ h => h) ?_
  refine T_block ?_
  refine T_seq ?_
  refine T_region ?_
  refine S_ 20 rfl rfl rfl _ (y_bin rfl rfl rfl (fun _ => b_eql)) ?_
  refine S_ 19 rfl rfl rfl _ (y_assign rfl rfl) ?_
  refine S_go (fun _ _ h => h) ?_
  refine T_cond rfl (fun h19 => ?_) (fun h19 => ?_)
  · try simp only [decide_eq_true_eq, decide_eq_false_iff_not, Bool.or_eq_true, Bool.or_eq_false_iff, Bool.and_eq_true, Bool.and_eq_false_iff, Bool.not_eq_true', Bool.not_eq_false', Bool.not_eq_true, Bool.not_eq_false, Bool.not_true, Bool.not_false, Int.not_lt, Int.not_le, not_or, not_and, Classical.not_not] at h19
    refine T_seq ?_
    refine T_region ?_
    refine S_ 21 rfl rfl rfl _ (y_loadA 4 rfl rfl rfl Tryz.underlying52 rfl sz52) ?_
    refine S_ 22 rfl rfl rfl _ (y_loadA 5 rfl rfl rfl Tryz.underlying29 rfl sz29) ?_
    refine S_ 23 rfl rfl rfl _ (y_move rfl rfl) ?_
    refine S_ 24 rfl rfl rfl _ (y_call rfl rfl rfl cf205 (fun _ w hM => comesBack_any s e vs w (hv.below hM.below))) ?_
    refine S_go (fun _ _ h => h) ?_
    refine T_cond rfl (fun h24 => ?_) (fun h24 => ?_)
    · skip
      refine T_seq ?_
      refine T_region ?_
      refine S_ 25 rfl rfl rfl _ (y_loadA 9 rfl rfl rfl Tryz.underlying52 rfl sz52) ?_
      refine S_store 8 rfl rfl rfl rfl rfl rfl sz52 rfl rfl ?_
      refine S_go (fun _ _ h => h) ?_
      refine T_ret (fun a w hF hM => hRb a w (post_cell1 8 rfl rfl rfl Tryz.underlying52 rfl (by exact sz52) (fun w hM => ?_) a w hF hM))
      have hg : againB s e.at_ e.rel e.wt (vs.l.map SVer.says) ppl = true := by rw [againB, if_pos h19]; exact h24
      exact ⟨by rw [afterS, if_pos hg]; rfl, hM.below⟩
    · skip
      refine T_skip_go (fun _ _ h => h) ?_
      refine T_seq ?_
      refine T_region ?_
      refine S_ 65 rfl rfl rfl _ (y_loadA 4 rfl rfl rfl Tryz.underlying52 rfl sz52) ?_
      refine S_store 8 rfl rfl rfl rfl rfl rfl sz52 rfl rfl ?_
      refine S_go (fun _ _ h => h) ?_
      refine T_ret (fun a w hF hM => hRb a w (post_cell1 8 rfl rfl rfl Tryz.underlying52 rfl (by exact sz52) (fun w hM => ?_) a w hF hM))
      have hg : againB s e.at_ e.rel e.wt (vs.l.map SVer.says) ppl = false := by rw [againB, if_pos h19]; exact h24
      exact ⟨by rw [afterS, if_neg (by rw [hg]; simp), if_neg (by omega)]; rfl, hM.below⟩
  · try simp only [decide_eq_true_eq, decide_eq_false_iff_not, Bool.or_eq_true, Bool.or_eq_false_iff, Bool.and_eq_true, Bool.and_eq_false_iff, Bool.not_eq_true', Bool.not_eq_false', Bool.not_eq_true, Bool.not_eq_false, Bool.not_true, Bool.not_false, Int.not_lt, Int.not_le, not_or, not_and, Classical.not_not] at h19
    refine T_seq ?_
    refine T_region ?_
    refine S_ 27 rfl rfl rfl _ (y_bin rfl rfl rfl (fun _ => b_eql)) ?_
    refine S_ 26 rfl rfl rfl _ (y_assign rfl rfl) ?_
    refine S_go (fun _ _ h => h) ?_
    refine T_cond rfl (fun h26 => ?_) (fun h26 => ?_)
    · try simp only [decide_eq_true_eq, decide_eq_false_iff_not, Bool.or_eq_true, Bool.or_eq_false_iff, Bool.and_eq_true, Bool.and_eq_false_iff, Bool.not_eq_true', Bool.not_eq_false', Bool.not_eq_true, Bool.not_eq_false, Bool.not_true, Bool.not_false, Int.not_lt, Int.not_le, not_or, not_and, Classical.not_not] at h26
      refine T_seq ?_
      refine T_seq ?_
      refine T_region ?_
      refine S_ 28 rfl rfl rfl _ (y_fieldAddr rfl rfl fa52_5) ?_
      refine S_ 29 rfl rfl rfl _ (y_load 4 rfl rfl rfl rfl Tryz.underlying3 rfl) ?_
      refine S_ 30 rfl rfl rfl _ (y_bin rfl rfl rfl (fun _ => b_neq)) ?_
      refine S_go (fun _ _ h => h) ?_
      refine T_cond rfl (fun h30 => ?_) (fun h30 => ?_)
      · try simp only [decide_eq_true_eq, decide_eq_false_iff_not, Bool.or_eq_true, Bool.or_eq_false_iff, Bool.and_eq_true, Bool.and_eq_false_iff, Bool.not_eq_true', Bool.not_eq_false', Bool.not_eq_true, Bool.not_eq_false, Bool.not_true, Bool.not_false, Int.not_lt, Int.not_le, not_or, not_and, Classical.not_not] at h30
        refine T_region ?_
        refine S_ 31 rfl rfl rfl _ (y_fieldAddr rfl rfl fa52_5) ?_
        refine S_ 32 rfl rfl rfl _ (y_load 4 rfl rfl rfl rfl Tryz.underlying3 rfl) ?_
        refine S_ 33 rfl rfl rfl _ (y_fieldAddr rfl rfl fa29_8) ?_
        refine S_ 34 rfl rfl rfl _ (y_load 5 rfl rfl rfl rfl Tryz.underlying3 rfl) ?_
        refine S_ 35 rfl rfl rfl _ (y_bin rfl rfl rfl (fun hg => b_sub (by omega))) ?_
        refine S_ 36 rfl rfl rfl _ (y_as (v' := .int .i64 (max (s.more - e.wt) 0)) (by congr 1; omega) (y_max rfl rfl rfl)) ?_
        refine S_ 37 rfl rfl rfl _ (y_fieldAddr rfl rfl fa52_5) ?_
        refine S_store 4 rfl rfl rfl rfl rfl rfl sz3 rfl rfl ?_
        refine S_go (fun _ _ h => h) ?_
        refine T_seq ?_
        refine T_region ?_
        refine S_ 38 rfl rfl rfl _ (y_fieldAddr rfl rfl fa52_4) ?_
        refine S_ 39 rfl rfl rfl _ (y_load 4 rfl rfl rfl rfl Tryz.underlying3 rfl) ?_
        refine S_ 40 rfl rfl rfl _ (y_bin rfl rfl rfl (fun _ => b_neq)) ?_
        refine S_ 41 rfl rfl rfl _ (y_move rfl rfl) ?_
        refine Sg_ 42 rfl rfl rfl rfl rfl rfl _ (y_fieldAddr rfl rfl fa29_1) ?_
        refine Sg_ 43 rfl rfl rfl rfl rfl rfl _ (y_load 5 rfl rfl rfl rfl Tryz.underlying3 rfl) ?_
        refine Sg_ 44 rfl rfl rfl rfl rfl rfl _ (y_fieldAddr rfl rfl fa52_4) ?_
        refine Sg_ 45 rfl rfl rfl rfl rfl rfl _ (y_load 4 rfl rfl rfl rfl Tryz.underlying3 rfl) ?_
        refine Sg_ 46 rfl rfl rfl rfl rfl rfl _ (y_bin rfl rfl rfl (fun _ => b_gtr)) ?_
        refine S_ 47 rfl rfl rfl _ (y_and rfl rfl rfl) ?_
        refine S_ 48 rfl rfl rfl _ (y_move rfl rfl) ?_
        refine Sg_ 49 rfl rfl rfl rfl rfl rfl _ (y_fieldAddr rfl rfl fa52_5) ?_
        refine Sg_ 50 rfl rfl rfl rfl rfl rfl _ (y_load 4 rfl rfl rfl rfl Tryz.underlying3 rfl) ?_
        refine Sg_ 51 rfl rfl rfl rfl rfl rfl _ (y_bin rfl rfl rfl (fun _ => b_eql)) ?_
        refine S_ 52 rfl rfl rfl _ (y_or rfl rfl rfl) ?_
        refine S_ 53 rfl rfl rfl _ (y_move rfl rfl) ?_
        refine Sg_ 54 rfl rfl rfl rfl rfl rfl _ (y_fieldAddr rfl rfl fa52_6) ?_
        refine Sg_ 55 rfl rfl rfl rfl rfl rfl _ (y_load 4 rfl rfl rfl rfl Tryz.underlying3 rfl) ?_
        refine Sg_ 56 rfl rfl rfl rfl rfl rfl _ (y_bin rfl rfl rfl (fun _ => b_neq)) ?_
        refine Sg_ 57 rfl rfl rfl rfl rfl rfl _ (y_move rfl rfl) ?_
        refine Sg_ 58 rfl rfl rfl rfl rfl rfl _ (y_move rfl rfl) ?_
        refine Sg_ 59 rfl rfl rfl rfl rfl rfl _ (y_fieldAddr rfl rfl fa52_6) ?_
        refine Sg_ 60 rfl rfl rfl rfl rfl rfl _ (y_load 4 rfl rfl rfl rfl Tryz.underlying3 rfl) ?_
        refine Sg_ 61 rfl rfl rfl rfl rfl rfl _ (y_bin rfl rfl rfl (fun _ => b_geq)) ?_
        refine Sg_ 62 rfl rfl rfl rfl rfl rfl _ (y_and rfl rfl rfl) ?_
        refine S_ 63 rfl rfl rfl _ (y_or rfl rfl rfl) ?_
        refine S_go (fun _ _ h => h) ?_
        refine T_cond rfl (fun h63 => ?_) (fun h63 => ?_)
        · skip
          refine T_seq ?_
          refine T_region ?_
          refine S_ 64 rfl rfl rfl _ (y_loadA 9 rfl rfl rfl Tryz.underlying52 rfl sz52) ?_
          refine S_store 8 rfl rfl rfl rfl rfl rfl sz52 rfl rfl ?_
          refine S_go (fun _ _ h => h) ?_
          refine T_ret (fun a w hF hM => hRb a w (post_cell1 8 rfl rfl rfl Tryz.underlying52 rfl (by exact sz52) (fun w hM => ?_) a w hF hM))
          have hl : lessM s e.wt = ⟨s.k, s.at_, s.inn, s.nx, s.till, max (s.more - e.wt) 0, s.ppl, s.again⟩ := if_pos h30
          have hg : againB s e.at_ e.rel e.wt (vs.l.map SVer.says) ppl = true := by rw [againB, if_neg (by omega), if_pos h26, hl]; exact h63
          exact ⟨by rw [afterS, if_pos hg]; rfl, hM.below⟩
        · skip
          refine T_skip_go (fun _ _ h => h) ?_
          refine T_seq ?_
          refine T_region ?_
          refine S_ 65 rfl rfl rfl _ (y_loadA 4 rfl rfl rfl Tryz.underlying52 rfl sz52) ?_
          refine S_store 8 rfl rfl rfl rfl rfl rfl sz52 rfl rfl ?_
          refine S_go (fun _ _ h => h) ?_
          refine T_ret (fun a w hF hM => hRb a w (post_cell1 8 rfl rfl rfl Tryz.underlying52 rfl (by exact sz52) (fun w hM => ?_) a w hF hM))
          have hl : lessM s e.wt = ⟨s.k, s.at_, s.inn, s.nx, s.till, max (s.more - e.wt) 0, s.ppl, s.again⟩ := if_pos h30
          have hg : againB s e.at_ e.rel e.wt (vs.l.map SVer.says) ppl = false := by rw [againB, if_neg (by omega), if_pos h26, hl]; exact h63
          exact ⟨by rw [afterS, if_neg (by rw [hg]; simp), if_pos h26, hl]; rfl, hM.below⟩
      · try simp only [decide_eq_true_eq, decide_eq_false_iff_not, Bool.or_eq_true, Bool.or_eq_false_iff, Bool.and_eq_true, Bool.and_eq_false_iff, Bool.not_eq_true', Bool.not_eq_false', Bool.not_eq_true, Bool.not_eq_false, Bool.not_true, Bool.not_false, Int.not_lt, Int.not_le, not_or, not_and, Classical.not_not] at h30
        refine T_skip_go (fun _ _ h => h) ?_
        refine T_seq ?_
        refine T_region ?_
        refine S_ 38 rfl rfl rfl _ (y_fieldAddr rfl rfl fa52_4) ?_
        refine S_ 39 rfl rfl rfl _ (y_load 4 rfl rfl rfl rfl Tryz.underlying3 rfl) ?_
        refine S_ 40 rfl rfl rfl _ (y_bin rfl rfl rfl (fun _ => b_neq)) ?_
        refine S_ 41 rfl rfl rfl _ (y_move rfl rfl) ?_
        refine Sg_ 42 rfl rfl rfl rfl rfl rfl _ (y_fieldAddr rfl rfl fa29_1) ?_
        refine Sg_ 43 rfl rfl rfl rfl rfl rfl _ (y_load 5 rfl rfl rfl rfl Tryz.underlying3 rfl) ?_
        refine Sg_ 44 rfl rfl rfl rfl rfl rfl _ (y_fieldAddr rfl rfl fa52_4) ?_
        refine Sg_ 45 rfl rfl rfl rfl rfl rfl _ (y_load 4 rfl rfl rfl rfl Tryz.underlying3 rfl) ?_
        refine Sg_ 46 rfl rfl rfl rfl rfl rfl _ (y_bin rfl rfl rfl (fun _ => b_gtr)) ?_
        refine S_ 47 rfl rfl rfl _ (y_and rfl rfl rfl) ?_
        refine S_ 48 rfl rfl rfl _ (y_move rfl rfl) ?_
        refine Sg_ 49 rfl rfl rfl rfl rfl rfl _ (y_fieldAddr rfl rfl fa52_5) ?_
        refine Sg_ 50 rfl rfl rfl rfl rfl rfl _ (y_load 4 rfl rfl rfl rfl Tryz.underlying3 rfl) ?_
        refine Sg_ 51 rfl rfl rfl rfl rfl rfl _ (y_bin rfl rfl rfl (fun _ => b_eql)) ?_
        refine S_ 52 rfl rfl rfl _ (y_or rfl rfl rfl) ?_
        refine S_ 53 rfl rfl rfl _ (y_move rfl rfl) ?_
        refine Sg_ 54 rfl rfl rfl rfl rfl rfl _ (y_fieldAddr rfl rfl fa52_6) ?_
        refine Sg_ 55 rfl rfl rfl rfl rfl rfl _ (y_load 4 rfl rfl rfl rfl Tryz.underlying3 rfl) ?_
        refine Sg_ 56 rfl rfl rfl rfl rfl rfl _ (y_bin rfl rfl rfl (fun _ => b_neq)) ?_
        refine Sg_ 57 rfl rfl rfl rfl rfl rfl _ (y_move rfl rfl) ?_
        refine Sg_ 58 rfl rfl rfl rfl rfl rfl _ (y_move rfl rfl) ?_
        refine Sg_ 59 rfl rfl rfl rfl rfl rfl _ (y_fieldAddr rfl rfl fa52_6) ?_
        refine Sg_ 60 rfl rfl rfl rfl rfl rfl _ (y_load 4 rfl rfl rfl rfl Tryz.underlying3 rfl) ?_
        refine Sg_ 61 rfl rfl rfl rfl rfl rfl _ (y_bin rfl rfl rfl (fun _ => b_geq)) ?_
        refine Sg_ 62 rfl rfl rfl rfl rfl rfl _ (y_and rfl rfl rfl) ?_
        refine S_ 63 rfl rfl rfl _ (y_or rfl rfl rfl) ?_
        refine S_go (fun _ _ h => h) ?_
        refine T_cond rfl (fun h63 => ?_) (fun h63 => ?_)
        · skip
          refine T_seq ?_
          refine T_region ?_
          refine S_ 64 rfl rfl rfl _ (y_loadA 9 rfl rfl rfl Tryz.underlying52 rfl sz52) ?_
          refine S_store 8 rfl rfl rfl rfl rfl rfl sz52 rfl rfl ?_
          refine S_go (fun _ _ h => h) ?_
          refine T_ret (fun a w hF hM => hRb a w (post_cell1 8 rfl rfl rfl Tryz.underlying52 rfl (by exact sz52) (fun w hM => ?_) a w hF hM))
          have hl : lessM s e.wt = s := if_neg (by omega)
          have hg : againB s e.at_ e.rel e.wt (vs.l.map SVer.says) ppl = true := by rw [againB, if_neg (by omega), if_pos h26, hl]; exact h63
          exact ⟨by rw [afterS, if_pos hg]; rfl, hM.below⟩
        · skip
          refine T_skip_go (fun _ _ h => h) ?_
          refine T_seq ?_
          refine T_region ?_
          refine S_ 65 rfl rfl rfl _ (y_loadA 4 rfl rfl rfl Tryz.underlying52 rfl sz52) ?_
          refine S_store 8 rfl rfl rfl rfl rfl rfl sz52 rfl rfl ?_
          refine S_go (fun _ _ h => h) ?_
          refine T_ret (fun a w hF hM => hRb a w (post_cell1 8 rfl rfl rfl Tryz.underlying52 rfl (by exact sz52) (fun w hM => ?_) a w hF hM))
          have hl : lessM s e.wt = s := if_neg (by omega)
          have hg : againB s e.at_ e.rel e.wt (vs.l.map SVer.says) ppl = false := by rw [againB, if_neg (by omega), if_pos h26, hl]; exact h63
          exact ⟨by rw [afterS, if_neg (by rw [hg]; simp), if_pos h26, hl]; rfl, hM.below⟩
    · try simp only [decide_eq_true_eq, decide_eq_false_iff_not, Bool.or_eq_true, Bool.or_eq_false_iff, Bool.and_eq_true, Bool.and_eq_false_iff, Bool.not_eq_true', Bool.not_eq_false', Bool.not_eq_true, Bool.not_eq_false, Bool.not_true, Bool.not_false, Int.not_lt, Int.not_le, not_or, not_and, Classical.not_not] at h26
      refine T_skip_go (fun _ _ h => h) ?_
      refine T_seq ?_
      refine T_region ?_
      refine S_ 65 rfl rfl rfl _ (y_loadA 4 rfl rfl rfl Tryz.underlying52 rfl sz52) ?_
      refine S_store 8 rfl rfl rfl rfl rfl rfl sz52 rfl rfl ?_
      refine S_go (fun _ _ h => h) ?_
      refine T_ret (fun a w hF hM => hRb a w (post_cell1 8 rfl rfl rfl Tryz.underlying52 rfl (by exact sz52) (fun w hM => ?_) a w hF hM))
      have hg : againB s e.at_ e.rel e.wt (vs.l.map SVer.says) ppl = false := by rw [againB, if_neg (by omega), if_neg (by omega)]
      exact ⟨by rw [afterS, if_neg (by rw [hg]; simp), if_neg (by omega)]; rfl, hM.below⟩
end Go.Proofs.YtpmlgnbbkpplhaaGreatDoor
end
section
namespace Go.Proofs.YtpmlgnbbkpplhaaGreatDoor
set_option linter.unusedSimpArgs false
set_option linter.unusedVariables false
set_option maxRecDepth 20000
open Go.RowKit Go.Eng
theorem parE_good {s : List UInt8} (h : relOk s = true) : parE s = (verV s, 0) := if_pos h
theorem parE_bad {s : List UInt8} (h : relOk s = false) : parE s = (pver0, 8) := if_neg (by rw [h]; simp)
def pst0 : PSt := ⟨0, 0, [], false, 0, 0, 0, 0⟩
def seenNo (s : PSt) (e : Evt) (S : List (List UInt8)) (ppl : Int) : Int := fst (stNo s) (fst (evNo e) (fst (allNo S) (if outB ppl 0 1000000 = true then 2 else 0)))
def seenS (s : PSt) (e : Evt) (S : List (List UInt8)) (ppl : Int) : PSt := if seenNo s e S ppl = 0 then afterS s e.at_ e.rel e.wt (S.map verV) ppl else pst0
def seenB (s : PSt) (e : Evt) (S : List (List UInt8)) (ppl : Int) : Bool := if seenNo s e S ppl = 0 then againB s e.at_ e.rel e.wt (S.map verV) ppl else false
theorem fst0 {a b : Int} (h : fst a b = 0) : a = 0 ∧ b = 0 := by
  unfold fst at h
  split at h
  · omega
  · exact ⟨by omega, h⟩
theorem ev_wt {e : Evt} (h : evNo e = 0) : 1 ≤ e.wt ∧ e.wt ≤ 1000000 := by
  have h := (fst0 (fst0 (fst0 (fst0 h).2).2).2).2
  split at h
  · omega
  · have h := (fst0 h).2
    split at h
    · omega
    · rename_i h1
      simp only [Bool.or_eq_true, decide_eq_true_eq, not_or] at h1
      omega
theorem st_parts {s : PSt} (h : stNo s = 0) : (s.k = 1 ∨ s.k = 2 ∨ s.k = 3) ∧ (0 ≤ s.again ∧ s.again ≤ 1000000) ∧ (-1 ≤ s.more ∧ s.more ≤ 1000000) ∧ (s.inn = [] ∨ relOk s.inn = true) ∧ stBadB s = false := by
  unfold stNo at h
  split at h
  · omega
  · rename_i h1
    split at h
    · omega
    · rename_i h2
      split at h
      · omega
      · rename_i h3
        split at h
        · omega
        · rename_i h4
          simp only [outB, Bool.or_eq_true, decide_eq_true_eq, not_or] at h1
          simp only [stBadA, outB, Bool.or_eq_true, decide_eq_true_eq, not_or] at h2
          refine ⟨by omega, by omega, by omega, ?_, by simpa using h4⟩
          by_cases hi : s.inn = []
          · exact .inl hi
          · right; simpa [hi] using h3
theorem st_num {s : PSt} {e : Evt} (h : stNo s = 0) (h2 : evNo e = 0) : StNum s e.wt := ⟨(st_parts h).2.1, (st_parts h).2.2.1, ev_wt h2⟩
theorem again_k {s : PSt} {at_ : Int} {rel : List UInt8} {wt : Int} {vs : List PVer} {ppl : Int} (h : againB s at_ rel wt vs ppl = true) : s.k = 2 ∨ s.k = 3 := by
  unfold againB at h
  split at h
  · exact .inl ‹_›
  · split at h
    · exact .inr ‹_›
    · cases h
theorem after_k {s : PSt} {at_ : Int} {rel : List UInt8} {wt : Int} {vs : List PVer} {ppl : Int} (h : againB s at_ rel wt vs ppl = false) : (afterS s at_ rel wt vs ppl).k = s.k ∧ (s.k = 1 → afterS s at_ rel wt vs ppl = s) := by
  unfold afterS
  rw [if_neg (by rw [h]; simp)]
  split
  · refine ⟨?_, fun h1 => by omega⟩
    unfold lessM; split <;> rfl
  · exact ⟨rfl, fun _ => rfl⟩
end Go.Proofs.YtpmlgnbbkpplhaaGreatDoor
end
section
namespace Go.Proofs.YtpmlgnbbkpplhaaGreatDoor
set_option linter.unusedSimpArgs false
set_option linter.unusedVariables false
set_option maxRecDepth 20000
open Go.RowKit Go.Eng
set_option maxHeartbeats 1600000 in
theorem Seen_any (s : PSt) (e : Evt) (A : Option Addr) (q c : Nat) (S : List (List UInt8)) (ppl : Int) (w : World) (he : e.Ok w) (hS : SlT strE 1 w A q S) :
    Calls Tryz.prog 27 #[s.val, e.val, .slice A q c, .int .i64 ppl] w fun en w' => en = .returned (.tuple #[(seenS s e S ppl).val, .bool (seenB s e S ppl), .int .i64 (seenNo s e S ppl)]) ∧ Below w.heap.size w w' := by
  refine enter_args (args := [.agg #[.int .i64 s.k, .int .i64 s.at_, str s.inn, .bool s.nx, .int .i64 s.till, .int .i64 s.more, .int .i64 s.ppl, .int .i64 s.again], .agg #[str e.id, .int .i64 e.at_, .int .i64 e.lv, .slice e.fa.A e.fa.q e.fa.c, .slice e.ta.A e.ta.q e.ta.c, .slice e.cr.A e.cr.q e.cr.c, str e.rel, str e.us, .int .i64 e.wt], .slice A q c, .int .i64 ppl]) (F := _) Tryz.func27 rfl Tryz.ntmps27 rfl rfl ?_
  intro Rb hRb hRn
  refine T_seq ?_
  refine T_region ?_
  refine S_box 4 4 rfl rfl rfl rfl rfl ?_
  intro b4
  refine S_box 5 5 rfl rfl rfl rfl rfl ?_
  intro b5
  refine S_alloc 8 8 rfl rfl rfl rfl z52 ?_
  intro b8
  refine S_ 9 rfl rfl rfl _ (y_assign rfl rfl) ?_
  refine S_ 10 rfl rfl rfl _ (y_assign rfl rfl) ?_
  refine S_go (fun _ _ h => h) ?_
  refine T_seq ?_
  refine T_seq ?_
  refine T_region ?_
  refine S_ 16 rfl rfl rfl _ (y_loadA 4 rfl rfl rfl Tryz.underlying52 rfl sz52) ?_
  refine S_ 17 rfl rfl rfl _ (y_call rfl rfl rfl cf109 (fun _ w _ => CheckState_any s w)) ?_
  refine S_ 11 rfl rfl rfl _ (y_assign rfl rfl) ?_
  refine S_go (fun _ _ h => h) ?_
  refine T_seq ?_
  refine T_region ?_
  refine S_ 18 rfl rfl rfl _ (y_move rfl rfl) ?_
  refine S_ 19 rfl rfl rfl _ (y_bin rfl rfl rfl (fun _ => b_neq)) ?_
  refine S_go (fun _ _ h => h) ?_
  refine T_cond rfl (fun h19 => ?_) (fun h19 => ?_)
  · try simp only [decide_eq_true_eq, decide_eq_false_iff_not, Bool.or_eq_true, Bool.or_eq_false_iff, Bool.and_eq_true, Bool.and_eq_false_iff, Bool.not_eq_true', Bool.not_eq_false', Bool.not_eq_true, Bool.not_eq_false, Bool.not_true, Bool.not_false, Int.not_lt, Int.not_le, not_or, not_and, Classical.not_not] at h19
    refine T_seq ?_
    refine T_region ?_
    refine S_ 20 rfl rfl rfl _ (y_build (zv := .agg #[.int .i64 0, .int .i64 0, .string ⟨#[]⟩, .bool false, .int .i64 0, .int .i64 0, .int .i64 0, .int .i64 0]) (pl := [(0, 1), (1, 1), (2, 1), (3, 1), (4, 1), (5, 1), (6, 1), (7, 1)]) (out := [.int .i64 0, .int .i64 0, .string ⟨#[]⟩, .bool false, .int .i64 0, .int .i64 0, .int .i64 0, .int .i64 0]) rfl rfl Tryz.underlying52 z52 (by kernel_rfl) rfl) ?_
    refine S_ 21 rfl rfl rfl _ (y_move rfl rfl) ?_
    refine S_store 8 rfl rfl rfl rfl rfl rfl sz52 rfl rfl ?_
    refine S_ 9 rfl rfl rfl _ (y_assign rfl rfl) ?_
    refine S_ 10 rfl rfl rfl _ (y_assign rfl rfl) ?_
    refine S_go (fun _ _ h => h) ?_
    refine T_ret (fun a w hF hM => hRb a w (post_cell2 8 rfl rfl rfl rfl rfl Tryz.underlying52 rfl (by exact sz52) (fun w hM => ?_) a w hF hM))
    have hno : seenNo s e S ppl = stNo s := fst_t h19
    exact ⟨by rw [seenS, seenB, hno, if_neg h19, if_neg h19]; rfl, hM.below⟩
  · try simp only [decide_eq_true_eq, decide_eq_false_iff_not, Bool.or_eq_true, Bool.or_eq_false_iff, Bool.and_eq_true, Bool.and_eq_false_iff, Bool.not_eq_true', Bool.not_eq_false', Bool.not_eq_true, Bool.not_eq_false, Bool.not_true, Bool.not_false, Int.not_lt, Int.not_le, not_or, not_and, Classical.not_not] at h19
    have h19 : stNo s = 0 := h19
    refine T_skip_go (fun _ _ h => h) ?_
    refine T_seq ?_
    refine T_seq ?_
    refine T_region ?_
    refine S_ 22 rfl rfl rfl _ (y_loadA 5 rfl rfl rfl Tryz.underlying29 rfl sz29) ?_
    refine S_ 23 rfl rfl rfl _ (y_call rfl rfl rfl cf57 (fun _ w hM => Check_any e w (he.below hM.below))) ?_
    refine S_ 12 rfl rfl rfl _ (y_assign rfl rfl) ?_
    refine S_go (fun _ _ h => h) ?_
    refine T_seq ?_
    refine T_region ?_
    refine S_ 24 rfl rfl rfl _ (y_move rfl rfl) ?_
    refine S_ 25 rfl rfl rfl _ (y_bin rfl rfl rfl (fun _ => b_neq)) ?_
    refine S_go (fun _ _ h => h) ?_
    refine T_cond rfl (fun h25 => ?_) (fun h25 => ?_)
    · try simp only [decide_eq_true_eq, decide_eq_false_iff_not, Bool.or_eq_true, Bool.or_eq_false_iff, Bool.and_eq_true, Bool.and_eq_false_iff, Bool.not_eq_true', Bool.not_eq_false', Bool.not_eq_true, Bool.not_eq_false, Bool.not_true, Bool.not_false, Int.not_lt, Int.not_le, not_or, not_and, Classical.not_not] at h25
      refine T_seq ?_
      refine T_region ?_
      refine S_ 26 rfl rfl rfl _ (y_build (zv := .agg #[.int .i64 0, .int .i64 0, .string ⟨#[]⟩, .bool false, .int .i64 0, .int .i64 0, .int .i64 0, .int .i64 0]) (pl := [(0, 1), (1, 1), (2, 1), (3, 1), (4, 1), (5, 1), (6, 1), (7, 1)]) (out := [.int .i64 0, .int .i64 0, .string ⟨#[]⟩, .bool false, .int .i64 0, .int .i64 0, .int .i64 0, .int .i64 0]) rfl rfl Tryz.underlying52 z52 (by kernel_rfl) rfl) ?_
      refine S_ 27 rfl rfl rfl _ (y_move rfl rfl) ?_
      refine S_store 8 rfl rfl rfl rfl rfl rfl sz52 rfl rfl ?_
      refine S_ 9 rfl rfl rfl _ (y_assign rfl rfl) ?_
      refine S_ 10 rfl rfl rfl _ (y_assign rfl rfl) ?_
      refine S_go (fun _ _ h => h) ?_
      refine T_ret (fun a w hF hM => hRb a w (post_cell2 8 rfl rfl rfl rfl rfl Tryz.underlying52 rfl (by exact sz52) (fun w hM => ?_) a w hF hM))
      have hno : seenNo s e S ppl = evNo e := by rw [seenNo, fst_f h19, fst_t h25]
      exact ⟨by rw [seenS, seenB, hno, if_neg h25, if_neg h25]; rfl, hM.below⟩
    · try simp only [decide_eq_true_eq, decide_eq_false_iff_not, Bool.or_eq_true, Bool.or_eq_false_iff, Bool.and_eq_true, Bool.and_eq_false_iff, Bool.not_eq_true', Bool.not_eq_false', Bool.not_eq_true, Bool.not_eq_false, Bool.not_true, Bool.not_false, Int.not_lt, Int.not_le, not_or, not_and, Classical.not_not] at h25
      have h25 : evNo e = 0 := h25
      refine T_skip_go (fun _ _ h => h) ?_
      refine T_seq ?_
      refine T_region ?_
      refine S_ 29 rfl rfl rfl _ (y_move rfl rfl) ?_
      refine S_callN 30 [] [(4, 904), (900, 920)] (X := AllR) rfl rfl rfl rfl rfl rfl rfl cf110 rfl (fun z => .tuple #[.slice z.A z.l.length z.c, .int .i64 (allNo S)]) (fun z => z.Ok w S) (fun z => [(4, .own 42 5 (.slice z.A z.l.length z.c) z.l.length (z.l.flatMap SVer.enc)), (900, .many z.rs)]) (fun _ => rfl) (fun _ => rfl) (fun K1 hK1 w1 hM => parseAll_any hK1 A q c S w1 hS hM) ?_
      intro x30 hx30
      refine S_ 28 rfl rfl rfl _ (y_move rfl rfl) ?_
      refine S_ 31 rfl rfl rfl _ (y_extract rfl rfl rfl) ?_
      refine S_ 32 rfl rfl rfl _ (y_extract rfl rfl rfl) ?_
      refine S_ 13 rfl rfl rfl _ (y_assign rfl rfl) ?_
      refine S_ 14 rfl rfl rfl _ (y_assign rfl rfl) ?_
      refine S_go (fun _ _ h => h) ?_
      refine T_seq ?_
      refine T_seq ?_
      refine T_region ?_
      refine S_ 33 rfl rfl rfl _ (y_move rfl rfl) ?_
      refine S_ 34 rfl rfl rfl _ (y_bin rfl rfl rfl (fun _ => b_neq)) ?_
      refine S_go (fun _ _ h => h) ?_
      refine T_cond rfl (fun h34 => ?_) (fun h34 => ?_)
      · try simp only [decide_eq_true_eq, decide_eq_false_iff_not, Bool.or_eq_true, Bool.or_eq_false_iff, Bool.and_eq_true, Bool.and_eq_false_iff, Bool.not_eq_true', Bool.not_eq_false', Bool.not_eq_true, Bool.not_eq_false, Bool.not_true, Bool.not_false, Int.not_lt, Int.not_le, not_or, not_and, Classical.not_not] at h34
        refine T_seq ?_
        refine T_region ?_
        refine S_ 35 rfl rfl rfl _ (y_build (zv := .agg #[.int .i64 0, .int .i64 0, .string ⟨#[]⟩, .bool false, .int .i64 0, .int .i64 0, .int .i64 0, .int .i64 0]) (pl := [(0, 1), (1, 1), (2, 1), (3, 1), (4, 1), (5, 1), (6, 1), (7, 1)]) (out := [.int .i64 0, .int .i64 0, .string ⟨#[]⟩, .bool false, .int .i64 0, .int .i64 0, .int .i64 0, .int .i64 0]) rfl rfl Tryz.underlying52 z52 (by kernel_rfl) rfl) ?_
        refine S_ 36 rfl rfl rfl _ (y_move rfl rfl) ?_
        refine S_store 8 rfl rfl rfl rfl rfl rfl sz52 rfl rfl ?_
        refine S_ 9 rfl rfl rfl _ (y_assign rfl rfl) ?_
        refine S_ 10 rfl rfl rfl _ (y_assign rfl rfl) ?_
        refine S_go (fun _ _ h => h) ?_
        refine T_ret (fun a w hF hM => hRb a w (post_cell2 8 rfl rfl rfl rfl rfl Tryz.underlying52 rfl (by exact sz52) (fun w hM => ?_) a w hF hM))
        have hno : seenNo s e S ppl = allNo S := by rw [seenNo, fst_f h19, fst_f h25, fst_t h34]
        exact ⟨by rw [seenS, seenB, hno, if_neg h34, if_neg h34]; rfl, hM.below⟩
      · try simp only [decide_eq_true_eq, decide_eq_false_iff_not, Bool.or_eq_true, Bool.or_eq_false_iff, Bool.and_eq_true, Bool.and_eq_false_iff, Bool.not_eq_true', Bool.not_eq_false', Bool.not_eq_true, Bool.not_eq_false, Bool.not_true, Bool.not_false, Int.not_lt, Int.not_le, not_or, not_and, Classical.not_not] at h34
        have h34 : allNo S = 0 := h34
        have hvs : x30.sl.l.map SVer.says = S.map verV := by have := hx30.says; rw [if_pos h34] at this; exact this
        refine T_skip_go (fun _ _ h => h) ?_
        refine T_seq ?_
        refine T_seq ?_
        refine T_region ?_
        refine S_ 37 rfl rfl rfl _ (y_move rfl rfl) ?_
        refine S_ 38 rfl rfl rfl _ (y_call rfl rfl rfl cf87 (fun _ w _ => routside_any _ _ _ w)) ?_
        refine S_go (fun _ _ h => h) ?_
        refine T_cond rfl (fun h38 => ?_) (fun h38 => ?_)
        · skip
          refine T_seq ?_
          refine T_region ?_
          refine S_ 39 rfl rfl rfl _ (y_build (zv := .agg #[.int .i64 0, .int .i64 0, .string ⟨#[]⟩, .bool false, .int .i64 0, .int .i64 0, .int .i64 0, .int .i64 0]) (pl := [(0, 1), (1, 1), (2, 1), (3, 1), (4, 1), (5, 1), (6, 1), (7, 1)]) (out := [.int .i64 0, .int .i64 0, .string ⟨#[]⟩, .bool false, .int .i64 0, .int .i64 0, .int .i64 0, .int .i64 0]) rfl rfl Tryz.underlying52 z52 (by kernel_rfl) rfl) ?_
          refine S_store 8 rfl rfl rfl rfl rfl rfl sz52 rfl rfl ?_
          refine S_ 9 rfl rfl rfl _ (y_assign rfl rfl) ?_
          refine S_ 10 rfl rfl rfl _ (y_assign rfl rfl) ?_
          refine S_go (fun _ _ h => h) ?_
          refine T_ret (fun a w hF hM => hRb a w (post_cell2 8 rfl rfl rfl rfl rfl Tryz.underlying52 rfl (by exact sz52) (fun w hM => ?_) a w hF hM))
          have hno : seenNo s e S ppl = 2 := by rw [seenNo, fst_f h19, fst_f h25, fst_f h34, if_pos h38]
          exact ⟨by rw [seenS, seenB, hno, if_neg (by decide), if_neg (by decide)]; rfl, hM.below⟩
        · skip
          refine T_skip_go (fun _ _ h => h) ?_
          refine T_seq ?_
          refine T_region ?_
          refine S_ 40 rfl rfl rfl _ (y_loadA 4 rfl rfl rfl Tryz.underlying52 rfl sz52) ?_
          refine S_ 41 rfl rfl rfl _ (y_loadA 5 rfl rfl rfl Tryz.underlying29 rfl sz29) ?_
          refine S_ 42 rfl rfl rfl _ (y_move rfl rfl) ?_
          refine S_ 43 rfl rfl rfl _ (y_move rfl rfl) ?_
          refine S_ 44 rfl rfl rfl _ (y_as (v' := (afterS s e.at_ e.rel e.wt (S.map verV) ppl).val) (by rw [hvs]) (y_call rfl rfl rfl cf111 (fun _ w hM => after_any s e x30.sl ppl w (AllR.vers hx30 hM 904 920 rfl rfl (by have := AllR.len hx30; omega)) (st_num h19 h25)))) ?_
          refine S_alloc 15 15 rfl rfl rfl rfl z52 ?_
          intro b15
          refine S_store 15 rfl rfl rfl rfl rfl rfl sz52 rfl rfl ?_
          refine S_go (fun _ _ h => h) ?_
          refine T_seq ?_
          refine T_perm [0, 1, 2, 3, 4, 5, 6, 7, 8, 9, 10, 11] [true, true, true, true, true, true, true, true, true, false, true, true] [0, 0, 0, 6, 14, 30, 62, 126, 254, 31, 1023, 2047] [(0, [15]), (1, [15]), (2, [4]), (6, [15])] (by kernel_rfl) (by kernel_rfl) (by kernel_rfl) rfl (by kernel_rfl) ?_
          refine Rf_ 0 45 rfl rfl rfl rfl rfl _ ⟨rfl, trivial⟩ (Y.z (y_loadA 15 rfl rfl rfl Tryz.underlying52 rfl sz52) rfl) ?_
          refine Rf_ 1 46 rfl rfl rfl rfl rfl _ ⟨rfl, trivial⟩ (Y.z (y_loadA 15 rfl rfl rfl Tryz.underlying52 rfl sz52) rfl) ?_
          refine Rf_ 2 47 rfl rfl rfl rfl rfl _ ⟨rfl, trivial⟩ (Y.z (y_loadA 4 rfl rfl rfl Tryz.underlying52 rfl sz52) rfl) ?_
          refine Rf_ 3 48 rfl rfl rfl rfl rfl _ trivial (Y.z (y_bin rfl rfl rfl (fun _ => b_neqA (rs := [_, _, _, _, _, _, _, _]) Tryz.underlying52 (by kernel_rfl) (by kernel_rfl) ⟨by decide, ⟨_, Tryz.underlying3, rfl, _, _, rfl, rfl, rfl⟩, by decide, ⟨_, Tryz.underlying3, rfl, _, _, rfl, rfl, rfl⟩, by decide, ⟨_, Tryz.underlying9, rfl, _, _, rfl, rfl, rfl⟩, by decide, ⟨_, Tryz.underlying4, rfl, _, _, rfl, rfl, rfl⟩, by decide, ⟨_, Tryz.underlying3, rfl, _, _, rfl, rfl, rfl⟩, by decide, ⟨_, Tryz.underlying3, rfl, _, _, rfl, rfl, rfl⟩, by decide, ⟨_, Tryz.underlying3, rfl, _, _, rfl, rfl, rfl⟩, by decide, ⟨_, Tryz.underlying3, rfl, _, _, rfl, rfl, rfl⟩, trivial⟩)) rfl) ?_
          refine Rf_ 4 49 rfl rfl rfl rfl rfl _ trivial (Y.z (y_move rfl rfl) rfl) ?_
          refine Rfg_ 5 50 rfl rfl rfl rfl rfl rfl rfl rfl _ trivial (Y.z (y_fieldAddr rfl rfl fa52_0) rfl) ?_
          refine Rfg_ 6 51 rfl rfl rfl rfl rfl rfl rfl rfl _ ⟨rfl, trivial⟩ (Y.z (y_load 15 rfl rfl rfl rfl Tryz.underlying3 rfl) rfl) ?_
          refine Rfg_ 7 52 rfl rfl rfl rfl rfl rfl rfl rfl _ trivial (Y.z (y_bin rfl rfl rfl (fun _ => b_eql)) rfl) ?_
          refine Rf_ 8 53 rfl rfl rfl rfl rfl _ trivial (Y.z (y_as (v' := .bool (againB s e.at_ e.rel e.wt (S.map verV) ppl)) (by exact congrArg Value.bool (by
            have hk := (st_parts h19).1
            cases hg : againB s e.at_ e.rel e.wt (S.map verV) ppl with
            | true =>
              have h2 := again_k hg
              have ha : afterS s e.at_ e.rel e.wt (S.map verV) ppl = opened s e.at_ := if_pos hg
              have h3 : ¬ (1 : Int) = s.k := by omega
              simp [ha, opened, h3]
            | false =>
              obtain ⟨h2, h3⟩ := after_k hg
              by_cases h1 : s.k = 1
              · simp [h3 h1]
              · simp [h2, h1])) (y_and rfl rfl rfl)) rfl) ?_
          refine R_chain 9 rfl rfl ?_
          refine S_store 8 rfl rfl rfl rfl rfl rfl sz52 rfl rfl ?_
          refine R_next ⟨.inl rfl, .inl rfl, .inl rfl, .inr ⟨rfl, trivial⟩, trivial⟩ ?_
          refine Rf_ 10 9 rfl rfl rfl rfl rfl _ trivial (Y.z (y_assign rfl rfl) rfl) ?_
          refine Rf_ 11 10 rfl rfl rfl rfl rfl _ trivial (Y.z (y_assign rfl rfl) rfl) ?_
          refine R_go (fun _ _ h => h) ?_
          refine T_ret (fun a w hF hM => hRb a w (post_cell2 8 rfl rfl rfl rfl rfl Tryz.underlying52 rfl (by exact sz52) (fun w hM => ?_) a w hF hM))
          have hno : seenNo s e S ppl = 0 := by rw [seenNo, fst_f h19, fst_f h25, fst_f h34, if_neg (by rw [h38]; simp)]
          exact ⟨by rw [seenS, seenB, hno, if_pos rfl, if_pos rfl]; rfl, hM.below⟩
theorem seenS_good {s : PSt} {e : Evt} {S : List (List UInt8)} {ppl : Int} (h : seenNo s e S ppl = 0) : seenS s e S ppl = afterS s e.at_ e.rel e.wt (S.map verV) ppl ∧ seenB s e S ppl = againB s e.at_ e.rel e.wt (S.map verV) ppl := ⟨if_pos h, if_pos h⟩
end Go.Proofs.YtpmlgnbbkpplhaaGreatDoor
end
section
namespace Go.Proofs.YtpmlgnbbkpplhaaGreatDoor
set_option linter.unusedSimpArgs false
set_option linter.unusedVariables false
set_option maxRecDepth 20000
open Go.RowKit Go.Eng
abbrev a100 : List UInt8 := [97, 45, 49, 46, 48, 46, 48]
theorem par100 : parE a100 = (⟨[97], 1, 0, 0, []⟩, 0) := by kernel_rfl
theorem awakeRel_any (w : World) : Calls Tryz.prog 32 #[] w fun e w' => e = .returned (.bool true) ∧ Below w.heap.size w w' := by
  refine enter_args (args := []) (F := _) Tryz.func32 rfl Tryz.ntmps32 rfl rfl ?_
  intro Rb hRb hRn
  refine T_seq ?_
  refine T_region ?_
  refine S_ 0 rfl rfl rfl _ (y_assign rfl rfl) ?_
  refine S_go (fun _ _ h => h) ?_
  refine T_seq ?_
  refine T_region ?_
  refine S_callOwn 4 4 rfl rfl rfl rfl rfl rfl rfl cf24 (fun A c => .tuple #[pvV ⟨[97], 1, 0, 0, []⟩ A c, .int .i64 0]) 9 1 (0) ([]) (fun w hM => by have h := Parse_any a100 w; rw [par100] at h; exact h) ?_
  intro A4 c4
  refine S_ 3 rfl rfl rfl _ (y_move rfl rfl) ?_
  refine S_ 5 rfl rfl rfl _ (y_extract rfl rfl rfl) ?_
  refine S_ 6 rfl rfl rfl _ (y_extract rfl rfl rfl) ?_
  refine S_alloc 1 1 rfl rfl rfl rfl z42 ?_
  intro b1
  refine S_store 1 rfl rfl rfl rfl rfl rfl sz42 rfl rfl ?_
  refine S_ 2 rfl rfl rfl _ (y_assign rfl rfl) ?_
  refine S_go (fun _ _ h => h) ?_
  refine T_seq ?_
  refine T_region ?_
  refine S_ 7 rfl rfl rfl _ (y_move rfl rfl) ?_
  refine S_ 8 rfl rfl rfl _ (y_bin rfl rfl rfl (fun _ => b_eql)) ?_
  refine S_ 9 rfl rfl rfl _ (y_move rfl rfl) ?_
  refine Sg_ 10 rfl rfl rfl rfl rfl rfl _ (y_fieldAddr rfl rfl fa42_1) ?_
  refine Sg_ 11 rfl rfl rfl rfl rfl rfl _ (y_load 1 rfl rfl rfl rfl Tryz.underlying3 rfl) ?_
  refine Sg_ 12 rfl rfl rfl rfl rfl rfl _ (y_bin rfl rfl rfl (fun _ => b_eql)) ?_
  refine S_ 13 rfl rfl rfl _ (y_and rfl rfl rfl) ?_
  refine S_ 0 rfl rfl rfl _ (y_assign rfl rfl) ?_
  refine S_go (fun _ _ h => h) ?_
  refine T_ret (fun a w hF hM => hRb a w (post1 rfl rfl (fun w hM => ?_) a w hF hM))
  exact ⟨rfl, hM.below⟩
end Go.Proofs.YtpmlgnbbkpplhaaGreatDoor
end
