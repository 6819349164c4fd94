/- symbol.At: the places of an offset. Conditions: those of each theorem. -/
import Derived.Test.YtofolhnecfkjkaaDoorLines
import Derived.Test.YtofolhnecfkjkaaDoorFind
namespace Go.Proofs.YtofolhnecfkjkaaDoor
set_option linter.unusedSimpArgs false
set_option linter.unusedVariables false
set_option maxRecDepth 20000
open Go.RowKit Go.Eng

/-- how many rows lie before x -/
def rowsBefore (x : Int) : List SRow → Nat
  | [] => 0
  | r :: rest => if r.pos < x then rowsBefore x rest + 1 else 0
def Rising (l : List SRow) : Prop := ∀ (i j : Nat) (a b : SRow), l[i]? = some a → l[j]? = some b → i < j → a.pos < b.pos
theorem rowsBefore_of {x : Int} : ∀ (l : List SRow) (n : Nat), n ≤ l.length → (∀ i a, i < n → l[i]? = some a → a.pos < x) → (∀ a, l[n]? = some a → x ≤ a.pos) → rowsBefore x l = n
  | [], n, h, _, _ => by simp at h; simp [rowsBefore, h]
  | r :: rest, 0, _, _, h2 => by have := h2 r rfl; simp only [rowsBefore]; rw [if_neg (by omega)]
  | r :: rest, n + 1, h, h1, h2 => by
    simp only [rowsBefore]
    rw [if_pos (h1 0 r (by omega) rfl), rowsBefore_of rest n (by simpa using h) (fun i a hi ha => h1 (i + 1) a (by omega) (by simpa using ha)) (fun a ha => h2 a (by simpa using ha))]
theorem isNaN_any (x : Int) (w : World) : Calls Tryd.prog 121 #[.int .i64 x] w fun e w' => e = .returned (.bool false) ∧ Below w.heap.size w w' := by
  refine enter_args (args := [.int .i64 x]) (F := _) Tryd.func121 rfl Tryd.ntmps121 rfl rfl ?_
  intro Rb hRb hRn
  refine T_seq ?_
  refine T_region ?_
  refine S_ 2 rfl rfl rfl _ (y_assign rfl rfl) ?_
  refine S_go (fun _ _ h => h) ?_
  refine T_seq ?_
  refine T_region ?_
  refine S_ 3 rfl rfl rfl _ (y_move rfl rfl) ?_
  refine S_ 4 rfl rfl rfl _ (y_move rfl rfl) ?_
  refine S_ 5 rfl rfl rfl _ (y_bin rfl rfl rfl (fun _ => b_neq)) ?_
  refine S_ 2 rfl rfl rfl _ (y_assign rfl rfl) ?_
  refine S_go (fun _ _ h => h) ?_
  refine T_ret (fun a w hF hM => hRb a w (post1 rfl rfl (fun w hM => ?_) a w hF hM))
  exact ⟨by simp, hM.below⟩
def cmpI (a b : Int) : Int := if a < b then -1 else if b < a then 1 else 0
theorem cmp_any (a b : Int) (w : World) : Calls Tryd.prog 86 #[.int .i64 a, .int .i64 b] w fun e w' => e = .returned (.int .i64 (cmpI a b)) ∧ Below w.heap.size w w' := by
  refine enter_args (args := [.int .i64 a, .int .i64 b]) (F := _) Tryd.func86 rfl Tryd.ntmps86 rfl rfl ?_
  intro Rb hRb hRn
  refine T_seq ?_
  refine T_region ?_
  refine S_ 4 rfl rfl rfl _ (y_assign rfl rfl) ?_
  refine S_go (fun _ _ h => h) ?_
  refine T_seq ?_
  refine T_region ?_
  refine S_ 7 rfl rfl rfl _ (y_move rfl rfl) ?_
  refine S_ 8 rfl rfl rfl _ (y_call rfl rfl rfl cf121 (fun _ w _ => isNaN_any _ w)) ?_
  refine S_ 5 rfl rfl rfl _ (y_assign rfl rfl) ?_
  refine S_go (fun _ _ h => h) ?_
  refine T_seq ?_
  refine T_region ?_
  refine S_ 9 rfl rfl rfl _ (y_move rfl rfl) ?_
  refine S_ 10 rfl rfl rfl _ (y_call rfl rfl rfl cf121 (fun _ w _ => isNaN_any _ w)) ?_
  refine S_ 6 rfl rfl rfl _ (y_assign rfl rfl) ?_
  refine S_go (fun _ _ h => h) ?_
  refine T_seq ?_
  refine T_seq ?_
  refine T_region ?_
  refine S_ 11 rfl rfl rfl _ (y_move rfl rfl) ?_
  refine S_go (fun _ _ h => h) ?_
  refine T_cond rfl (fun h11 => ?_) (fun h11 => ?_)
  · try simp only [decide_eq_true_eq, decide_eq_false_iff_not, Bool.or_eq_true, Bool.or_eq_false_iff, Bool.and_eq_true, Bool.and_eq_false_iff, Bool.not_eq_true', Bool.not_eq_false', Bool.not_eq_true, Bool.not_eq_false, Bool.not_true, Bool.not_false, Int.not_lt, Int.not_le, not_or, not_and, Classical.not_not] at h11
    cases h11
  · try simp only [decide_eq_true_eq, decide_eq_false_iff_not, Bool.or_eq_true, Bool.or_eq_false_iff, Bool.and_eq_true, Bool.and_eq_false_iff, Bool.not_eq_true', Bool.not_eq_false', Bool.not_eq_true, Bool.not_eq_false, Bool.not_true, Bool.not_false, Int.not_lt, Int.not_le, not_or, not_and, Classical.not_not] at h11
    refine T_skip_go (fun _ _ h => h) ?_
    refine T_seq ?_
    refine T_seq ?_
    refine T_region ?_
    refine S_ 13 rfl rfl rfl _ (y_move rfl rfl) ?_
    refine S_go (fun _ _ h => h) ?_
    refine T_cond rfl (fun h13 => ?_) (fun h13 => ?_)
    · try simp only [decide_eq_true_eq, decide_eq_false_iff_not, Bool.or_eq_true, Bool.or_eq_false_iff, Bool.and_eq_true, Bool.and_eq_false_iff, Bool.not_eq_true', Bool.not_eq_false', Bool.not_eq_true, Bool.not_eq_false, Bool.not_true, Bool.not_false, Int.not_lt, Int.not_le, not_or, not_and, Classical.not_not] at h13
      cases h13
    · try simp only [decide_eq_true_eq, decide_eq_false_iff_not, Bool.or_eq_true, Bool.or_eq_false_iff, Bool.and_eq_true, Bool.and_eq_false_iff, Bool.not_eq_true', Bool.not_eq_false', Bool.not_eq_true, Bool.not_eq_false, Bool.not_true, Bool.not_false, Int.not_lt, Int.not_le, not_or, not_and, Classical.not_not] at h13
      refine T_skip_go (fun _ _ h => h) ?_
      refine T_seq ?_
      refine T_seq ?_
      refine T_region ?_
      refine S_ 14 rfl rfl rfl _ (y_move rfl rfl) ?_
      refine S_ 15 rfl rfl rfl _ (y_move rfl rfl) ?_
      refine S_ 16 rfl rfl rfl _ (y_bin rfl rfl rfl (fun _ => b_lss)) ?_
      refine S_go (fun _ _ h => h) ?_
      refine T_cond rfl (fun h16 => ?_) (fun h16 => ?_)
      · try simp only [decide_eq_true_eq, decide_eq_false_iff_not, Bool.or_eq_true, Bool.or_eq_false_iff, Bool.and_eq_true, Bool.and_eq_false_iff, Bool.not_eq_true', Bool.not_eq_false', Bool.not_eq_true, Bool.not_eq_false, Bool.not_true, Bool.not_false, Int.not_lt, Int.not_le, not_or, not_and, Classical.not_not] at h16
        refine T_seq ?_
        refine T_region ?_
        refine S_ 4 rfl rfl rfl _ (y_assign rfl rfl) ?_
        refine S_go (fun _ _ h => h) ?_
        refine T_ret (fun a w hF hM => hRb a w (post1 rfl rfl (fun w hM => ?_) a w hF hM))
        exact ⟨by rw [cmpI, if_pos h16], hM.below⟩
      · try simp only [decide_eq_true_eq, decide_eq_false_iff_not, Bool.or_eq_true, Bool.or_eq_false_iff, Bool.and_eq_true, Bool.and_eq_false_iff, Bool.not_eq_true', Bool.not_eq_false', Bool.not_eq_true, Bool.not_eq_false, Bool.not_true, Bool.not_false, Int.not_lt, Int.not_le, not_or, not_and, Classical.not_not] at h16
        refine T_skip_go (fun _ _ h => h) ?_
        refine T_seq ?_
        refine T_seq ?_
        refine T_region ?_
        refine S_ 17 rfl rfl rfl _ (y_move rfl rfl) ?_
        refine S_ 18 rfl rfl rfl _ (y_move rfl rfl) ?_
        refine S_ 19 rfl rfl rfl _ (y_bin rfl rfl rfl (fun _ => b_gtr)) ?_
        refine S_go (fun _ _ h => h) ?_
        refine T_cond rfl (fun h19 => ?_) (fun h19 => ?_)
        · try simp only [decide_eq_true_eq, decide_eq_false_iff_not, Bool.or_eq_true, Bool.or_eq_false_iff, Bool.and_eq_true, Bool.and_eq_false_iff, Bool.not_eq_true', Bool.not_eq_false', Bool.not_eq_true, Bool.not_eq_false, Bool.not_true, Bool.not_false, Int.not_lt, Int.not_le, not_or, not_and, Classical.not_not] at h19
          refine T_seq ?_
          refine T_region ?_
          refine S_ 4 rfl rfl rfl _ (y_assign rfl rfl) ?_
          refine S_go (fun _ _ h => h) ?_
          refine T_ret (fun a w hF hM => hRb a w (post1 rfl rfl (fun w hM => ?_) a w hF hM))
          exact ⟨by rw [cmpI, if_neg (by omega), if_pos h19], hM.below⟩
        · try simp only [decide_eq_true_eq, decide_eq_false_iff_not, Bool.or_eq_true, Bool.or_eq_false_iff, Bool.and_eq_true, Bool.and_eq_false_iff, Bool.not_eq_true', Bool.not_eq_false', Bool.not_eq_true, Bool.not_eq_false, Bool.not_true, Bool.not_false, Int.not_lt, Int.not_le, not_or, not_and, Classical.not_not] at h19
          refine T_skip_go (fun _ _ h => h) ?_
          refine T_seq ?_
          refine T_region ?_
          refine S_ 4 rfl rfl rfl _ (y_assign rfl rfl) ?_
          refine S_go (fun _ _ h => h) ?_
          refine T_ret (fun a w hF hM => hRb a w (post1 rfl rfl (fun w hM => ?_) a w hF hM))
          exact ⟨by rw [cmpI, if_neg (by omega), if_neg (by omega)], hM.below⟩
theorem rowAt1_any (r : SRow) (x : Int) (w : World) :
    Calls Tryd.prog 134 #[.agg r.enc.toArray, .int .i64 x] w fun e w' => e = .returned (.int .i64 (cmpI r.pos x)) ∧ Below w.heap.size w w' := by
  refine enter_args (args := [.agg #[.int .i64 r.pos, .int .i64 r.fi, .int .i64 r.ln], .int .i64 x]) (F := _) Tryd.func134 rfl Tryd.ntmps134 rfl rfl ?_
  intro Rb hRb hRn
  refine T_seq ?_
  refine T_region ?_
  refine S_box 2 2 rfl rfl rfl rfl rfl ?_
  intro b2
  refine S_ 4 rfl rfl rfl _ (y_assign rfl rfl) ?_
  refine S_go (fun _ _ h => h) ?_
  refine T_seq ?_
  refine T_region ?_
  refine S_ 5 rfl rfl rfl _ (y_fieldAddr rfl rfl fa98_0) ?_
  refine S_ 6 rfl rfl rfl _ (y_load 2 rfl rfl rfl rfl Tryd.underlying3 rfl) ?_
  refine S_ 7 rfl rfl rfl _ (y_move rfl rfl) ?_
  refine S_ 8 rfl rfl rfl _ (y_call rfl rfl rfl cf86 (fun _ w _ => cmp_any r.pos x w)) ?_
  refine S_ 4 rfl rfl rfl _ (y_assign rfl rfl) ?_
  refine S_go (fun _ _ h => h) ?_
  refine T_ret (fun a w hF hM => hRb a w (post1 rfl rfl (fun w hM => ?_) a w hF hM))
  exact ⟨rfl, hM.below⟩
theorem cmp_lt {a b : Int} : cmpI a b < 0 ↔ a < b := by unfold cmpI; split <;> (try split) <;> omega
theorem cmp_ge {a b : Int} (h : 0 ≤ cmpI a b) : b ≤ a := by
  by_cases hc : a < b
  · have := cmp_lt.2 hc; omega
  · omega
theorem cmp_eq {a b : Int} : cmpI a b = 0 ↔ a = b := by unfold cmpI; split <;> (try split) <;> omega
theorem rise_left {l : List SRow} (hr : Rising l) {n : Nat} {m : SRow} {x : Int} (hm : l[n]? = some m) (h : m.pos < x) : ∀ k a, k < n + 1 → l[k]? = some a → a.pos < x := fun k a hk ha => by
  by_cases e : k = n
  · subst e; rw [hm] at ha; cases ha; exact h
  · have := hr k n a m ha hm (by omega); omega
theorem rise_right {l : List SRow} (hr : Rising l) {n : Nat} {m : SRow} {x : Int} (hm : l[n]? = some m) (h : x ≤ m.pos) : ∀ k a, n ≤ k → l[k]? = some a → x ≤ a.pos := fun k a hk ha => by
  by_cases e : k = n
  · subst e; rw [hm] at ha; cases ha; exact h
  · have := hr n k m a hm ha (by omega); omega
theorem found_dec {l : List SRow} {i q : Nat} {m : SRow} {x : Int} (hlen : l.length = q) (hn : i < q → l[i]? = some m) : (decide (i < q) && decide (cmpI m.pos x = 0)) = decide (∃ r, l[i]? = some r ∧ r.pos = x) := by
  rw [Bool.eq_iff_iff]
  simp only [Bool.and_eq_true, decide_eq_true_eq, cmp_eq]
  constructor
  · rintro ⟨h1, h2⟩; exact ⟨m, hn h1, h2⟩
  · rintro ⟨r, h1, h2⟩
    have hi : i < q := by have := (List.getElem?_eq_some_iff.1 h1).1; omega
    rw [hn hi] at h1; cases h1; exact ⟨hi, h2⟩
theorem BSearch_any (A : Option Addr) (q c : Nat) (l : List SRow) (x : Int) (w : World) (hl : SlT SRow.enc 3 w A q l) (hq : q ≤ 4611686018427387904) (hr : Rising l) :
    Calls Tryd.prog 133 #[.slice A q c, .int .i64 x, .func (.func 134) #[] #[]] w fun e w' =>
      e = .returned (.tuple #[.int .i64 (rowsBefore x l : Int), .bool (decide (∃ r, l[rowsBefore x l]? = some r ∧ r.pos = x))]) ∧ Below w.heap.size w w' := by
  have hlen := hl.len
  refine enter_args (args := [.slice A q c, .int .i64 x, .func (.func 134) #[] #[]]) (F := _) Tryd.func133 rfl Tryd.ntmps133 rfl rfl ?_
  intro Rb hRb hRn
  refine T_seq ?_
  refine T_region ?_
  refine S_ 6 rfl rfl rfl _ (y_assign rfl rfl) ?_
  refine S_ 7 rfl rfl rfl _ (y_assign rfl rfl) ?_
  refine S_go (fun _ _ h => h) ?_
  refine T_seq ?_
  refine T_region ?_
  refine S_ 12 rfl rfl rfl _ (y_move rfl rfl) ?_
  refine S_ 13 rfl rfl rfl _ (y_len_slice rfl rfl Tryd.underlying24) ?_
  refine S_ 8 rfl rfl rfl _ (y_assign rfl rfl) ?_
  refine S_go (fun _ _ h => h) ?_
  refine T_seq ?_
  refine T_region ?_
  refine S_ 14 rfl rfl rfl _ (y_move rfl rfl) ?_
  refine S_ 9 rfl rfl rfl _ (y_assign rfl rfl) ?_
  refine S_ 10 rfl rfl rfl _ (y_assign rfl rfl) ?_
  refine S_go (fun _ _ h => h) ?_
  refine T_seq ?_
  refine T_block ?_
  refine T_loopK2 (kf := [(9, 11), (15, 34)]) (kl := [(9, 11), (15, 34)]) (fun (i j : Nat) => [(9, true, .int .i64 (i : Int)), (10, true, .int .i64 (j : Int))]) (fun (i j : Nat) => []) (fun (i j : Nat) => i ≤ j ∧ j ≤ q ∧ (∀ k a, k < i → l[k]? = some a → a.pos < x) ∧ (∀ k a, j ≤ k → l[k]? = some a → x ≤ a.pos)) (fun (i j : Nat) => j - i) 0 q (by repeat (first | exact kf_nil | (apply kf_in; focus rfl) | (apply kf_out; focus rfl))) (by repeat (first | exact kl_nil | exact kl_rest (by assumption) rfl | (apply kl_in; focus rfl) | (apply kl_out; focus rfl))) ?_ ?_ ?_ ?_
  · exact ⟨by omega, by omega, fun k a h => by omega, fun k a h ha => by have := (List.getElem?_eq_some_iff.1 ha).1; omega⟩
  · exact ⟨rfl, rfl, trivial⟩
  · exact trivial
  rintro i j ⟨hp1, hp2, hp3, hp4⟩
  refine T_seq ?_
  refine T_seq ?_
  refine T_region ?_
  refine S_ 15 rfl rfl rfl _ (y_move rfl rfl) ?_
  refine S_ 16 rfl rfl rfl _ (y_move rfl rfl) ?_
  refine S_ 17 rfl rfl rfl _ (y_bin rfl rfl rfl (fun _ => b_lss)) ?_
  refine S_go (fun _ _ h => h) ?_
  refine T_cond rfl (fun h17 => ?_) (fun h17 => ?_)
  · try simp only [decide_eq_true_eq, decide_eq_false_iff_not, Bool.or_eq_true, Bool.or_eq_false_iff, Bool.and_eq_true, Bool.and_eq_false_iff, Bool.not_eq_true', Bool.not_eq_false', Bool.not_eq_true, Bool.not_eq_false, Bool.not_true, Bool.not_false, Int.not_lt, Int.not_le, not_or, not_and, Classical.not_not] at h17
    obtain ⟨m, hm, _⟩ := hl.at (i := (i + j) / 2) (by omega)
    refine T_skip_go (fun _ _ h => h) ?_
    refine T_block ?_
    refine T_seq ?_
    refine T_region ?_
    refine S_ 18 rfl rfl rfl _ (y_move rfl rfl) ?_
    refine S_ 19 rfl rfl rfl _ (y_move rfl rfl) ?_
    refine S_ 20 rfl rfl rfl _ (y_bin rfl rfl rfl (fun hg => b_add (by omega))) ?_
    refine S_ 21 rfl rfl rfl _ (y_as (v' := .int .u64 ((i : Int) + (j : Int))) (by rw [wrap64_in (by omega)]) (y_conv rfl rfl Tryd.underlying3 Tryd.underlying152)) ?_
    refine S_ 22 rfl rfl rfl _ (y_bin rfl rfl rfl (fun hg => b_shrv ((((i + j) / 2 : Nat) : Int)) (by decide) (by decide) (by first | (simp; done) | (simp; omega)))) ?_
    refine S_ 23 rfl rfl rfl _ (y_conv64 rfl rfl Tryd.underlying152 Tryd.underlying3 (fun _ => by omega)) ?_
    refine S_ 11 rfl rfl rfl _ (y_assign rfl rfl) ?_
    refine S_go (fun _ _ h => h) ?_
    refine T_seq ?_
    refine T_region ?_
    refine S_ 24 rfl rfl rfl _ (y_move rfl rfl) ?_
    refine S_ 25 rfl rfl rfl _ (y_move rfl rfl) ?_
    refine S_ 26 rfl rfl rfl _ (y_move rfl rfl) ?_
    refine S_ 27 rfl rfl rfl _ (y_indexAddr rfl rfl rfl Tryd.underlying24 sz98 (fun hg => hl.isSome (by omega)) (fun _ => by omega)) ?_
    refine S_ 28 rfl rfl rfl _ (y_loadT rfl rfl hl (fun _ => rfl) (fun _ => hm) Tryd.underlying98 rfl sz98) ?_
    refine S_ 29 rfl rfl rfl _ (y_move rfl rfl) ?_
    refine S_ 30 rfl rfl rfl _ (y_call rfl rfl rfl cf134 (fun _ w _ => rowAt1_any m x w)) ?_
    refine S_ 31 rfl rfl rfl _ (y_bin rfl rfl rfl (fun _ => b_lss)) ?_
    refine S_go (fun _ _ h => h) ?_
    refine T_cond rfl (fun h31 => ?_) (fun h31 => ?_)
    · try simp only [decide_eq_true_eq, decide_eq_false_iff_not, Bool.or_eq_true, Bool.or_eq_false_iff, Bool.and_eq_true, Bool.and_eq_false_iff, Bool.not_eq_true', Bool.not_eq_false', Bool.not_eq_true, Bool.not_eq_false, Bool.not_true, Bool.not_false, Int.not_lt, Int.not_le, not_or, not_and, Classical.not_not] at h31
      refine T_region ?_
      refine S_ 32 rfl rfl rfl _ (y_move rfl rfl) ?_
      refine S_ 33 rfl rfl rfl _ (y_bin rfl rfl rfl (fun hg => b_add (by omega))) ?_
      refine S_ 9 rfl rfl rfl _ (y_assign rfl rfl) ?_
      refine S_nil (nextK2 (kf := [(9, 11), (15, 34)]) (kl := [(9, 11), (15, 34)]) ((i + j) / 2 + 1) j (by repeat (first | exact kf_nil | (apply kf_in; focus rfl) | (apply kf_out; focus rfl))) (by repeat (first | exact kl_nil | exact kl_rest (by assumption) rfl | (apply kl_in; focus rfl) | (apply kl_out; focus rfl))) ?_ ?_ ?_ ?_)
      · omega
      · exact ⟨by omega, hp2, rise_left hr hm (cmp_lt.1 h31), hp4⟩
      · exact ⟨rfl, rfl, trivial⟩
      · exact trivial
    · try simp only [decide_eq_true_eq, decide_eq_false_iff_not, Bool.or_eq_true, Bool.or_eq_false_iff, Bool.and_eq_true, Bool.and_eq_false_iff, Bool.not_eq_true', Bool.not_eq_false', Bool.not_eq_true, Bool.not_eq_false, Bool.not_true, Bool.not_false, Int.not_lt, Int.not_le, not_or, not_and, Classical.not_not] at h31
      refine T_region ?_
      refine S_ 34 rfl rfl rfl _ (y_move rfl rfl) ?_
      refine S_ 10 rfl rfl rfl _ (y_assign rfl rfl) ?_
      refine S_nil (nextK2 (kf := [(9, 11), (15, 34)]) (kl := [(9, 11), (15, 34)]) i ((i + j) / 2) (by repeat (first | exact kf_nil | (apply kf_in; focus rfl) | (apply kf_out; focus rfl))) (by repeat (first | exact kl_nil | exact kl_rest (by assumption) rfl | (apply kl_in; focus rfl) | (apply kl_out; focus rfl))) ?_ ?_ ?_ ?_)
      · omega
      · exact ⟨by omega, by omega, hp3, rise_right hr hm (cmp_ge h31)⟩
      · exact ⟨rfl, rfl, trivial⟩
      · exact trivial
  · try simp only [decide_eq_true_eq, decide_eq_false_iff_not, Bool.or_eq_true, Bool.or_eq_false_iff, Bool.and_eq_true, Bool.and_eq_false_iff, Bool.not_eq_true', Bool.not_eq_false', Bool.not_eq_true, Bool.not_eq_false, Bool.not_true, Bool.not_false, Int.not_lt, Int.not_le, not_or, not_and, Classical.not_not] at h17
    have hij : i = j := by omega
    subst hij
    obtain ⟨m, hn⟩ : ∃ m : SRow, i < q → l[i]? = some m := by
      by_cases h0 : i < q
      · exact ⟨l[i], fun _ => by simp [hlen, h0]⟩
      · exact ⟨⟨0, 0, 0⟩, fun h => absurd h h0⟩
    refine T_exit_go (fun _ _ h => h) ?_
    refine T_seq ?_
    refine T_region ?_
    refine S_ 35 rfl rfl rfl _ (y_move rfl rfl) ?_
    refine S_ 36 rfl rfl rfl _ (y_move rfl rfl) ?_
    refine S_ 37 rfl rfl rfl _ (y_move rfl rfl) ?_
    refine S_ 38 rfl rfl rfl _ (y_bin rfl rfl rfl (fun _ => b_lss)) ?_
    refine S_ 39 rfl rfl rfl _ (y_move rfl rfl) ?_
    refine Sg_ 40 rfl rfl rfl rfl rfl rfl _ (y_move rfl rfl) ?_
    refine Sg_ 41 rfl rfl rfl rfl rfl rfl _ (y_move rfl rfl) ?_
    refine Sg_ 42 rfl rfl rfl rfl rfl rfl _ (y_move rfl rfl) ?_
    refine Sg_ 43 rfl rfl rfl rfl rfl rfl _ (y_indexAddr rfl rfl rfl Tryd.underlying24 sz98 (fun hg => hl.isSome (by simp only [Bool.true_and, Bool.and_eq_true, beq_iff_eq, decide_eq_true_eq, decide_eq_false_iff_not, Int.not_lt, Int.not_le] at hg; omega)) (fun hg => by simp only [Bool.true_and, Bool.and_eq_true, beq_iff_eq, decide_eq_true_eq, decide_eq_false_iff_not, Int.not_lt, Int.not_le] at hg; omega)) ?_
    refine Sg_ 44 rfl rfl rfl rfl rfl rfl _ (y_loadT rfl rfl hl (fun _ => rfl) (fun hg => hn (by simp only [Bool.true_and, Bool.and_eq_true, beq_iff_eq, decide_eq_true_eq, decide_eq_false_iff_not, Int.not_lt, Int.not_le] at hg; omega)) Tryd.underlying98 rfl sz98) ?_
    refine Sg_ 45 rfl rfl rfl rfl rfl rfl _ (y_move rfl rfl) ?_
    refine Sg_ 46 rfl rfl rfl rfl rfl rfl _ (y_call rfl rfl rfl cf134 (fun _ w _ => rowAt1_any m x w)) ?_
    refine Sg_ 47 rfl rfl rfl rfl rfl rfl _ (y_bin rfl rfl rfl (fun _ => b_eql)) ?_
    refine S_ 48 rfl rfl rfl _ (y_and rfl rfl rfl) ?_
    refine S_ 6 rfl rfl rfl _ (y_assign rfl rfl) ?_
    refine S_ 7 rfl rfl rfl _ (y_assign rfl rfl) ?_
    refine S_go (fun _ _ h => h) ?_
    refine T_ret (fun a w hF hM => hRb a w (post2 rfl rfl rfl (fun w hM => ?_) a w hF hM))
    have e := rowsBefore_of (x := x) l i (by omega) hp3 (fun a ha => hp4 i a (by omega) ha)
    exact ⟨by rw [e, ← found_dec hlen hn]; simp, hM.below⟩
end Go.Proofs.YtofolhnecfkjkaaDoor
