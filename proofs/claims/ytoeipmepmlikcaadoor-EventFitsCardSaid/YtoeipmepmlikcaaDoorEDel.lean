/- slices.IndexFunc, ContainsFunc and DeleteFunc of tags. Conditions: those of each theorem. -/
import Derived.Test.YtoeipmepmlikcaaDoorEWithP
import Derived.Test.YtoeipmepmlikcaaDoorClr
import Derived.Test.YtoeipmepmlikcaaDoorESort
namespace Go.Proofs.YtoeipmepmlikcaaDoor
set_option linter.unusedSimpArgs false
set_option linter.unusedVariables false
set_option maxRecDepth 20000
open Go.RowKit Go.Eng
/-- the place of the first that answers p, or -1 -/
def IsIdx (p : STag → Bool) (l : List STag) (n : Int) : Prop := (n = -1 ∧ ∀ x ∈ l, p x = false) ∨ ∃ k : Nat, n = k ∧ (∀ x ∈ l.take k, p x = false) ∧ ∃ x, l[k]? = some x ∧ p x = true
theorem isIdx_any {p : STag → Bool} {l : List STag} {n : Int} (h : IsIdx p l n) : decide (0 ≤ n) = l.any p := by
  rcases h with ⟨rfl, h⟩ | ⟨k, rfl, _, x, hx, hp⟩
  · rw [show l.any p = false from List.any_eq_false.2 fun x hx => by simp [h x hx]]; rfl
  · rw [show l.any p = true from List.any_eq_true.2 ⟨x, List.mem_of_getElem? hx, hp⟩]; simp
theorem IndexTag_any (A : Option Addr) (q c : Nat) (l : List STag) (g : FuncId) (cap : Array Value) (p : STag → Bool) (w : World) (hl : SlT STag.enc 2 w A q l) (hq : q ≤ 4611686018427387904) (hcf : ∀ args w', (callFunc g args).run Tryd.prog w' = .ok (.enter g args) w')
    (hA : ∀ (x : STag) w', Below w.heap.size w w' → Calls Tryd.prog g (#[.agg x.enc.toArray] ++ cap) w' fun e w'' => e = .returned (.bool (p x)) ∧ Below w'.heap.size w' w'') :
    Calls Tryd.prog 195 #[.slice A q c, .func (.func g) #[] cap] w fun e w' => ∃ n : Int, e = .returned (.int .i64 n) ∧ IsIdx p l n ∧ Below w.heap.size w w' := by
  have hlen := hl.len
  refine enter_args (args := [.slice A q c, .func (.func g) #[] cap]) (F := _) Tryd.func195 rfl Tryd.ntmps195 rfl rfl ?_
  intro Rb hRb hRn
  refine T_seq ?_
  refine T_region ?_
  refine S_ 4 rfl rfl rfl _ (y_assign rfl rfl) ?_
  refine S_go (fun _ _ h => h) ?_
  refine T_seq ?_
  refine T_seq ?_
  refine T_region ?_
  refine S_ 6 rfl rfl rfl _ (y_move rfl rfl) ?_
  refine S_ 7 rfl rfl rfl _ (y_len_slice rfl rfl Tryd.underlying49) ?_
  refine S_ 8 rfl rfl rfl _ (y_move rfl rfl) ?_
  refine S_go (fun _ _ h => h) ?_
  refine T_block ?_
  refine T_loopK1 (kf := [(4, 5), (8, 18)]) (kl := [(4, 5), (8, 18)]) (fun (i : Nat) => [(8, true, .int .i64 (i : Int))]) (fun (i : Nat) => []) (fun (i : Nat) => i ≤ q ∧ ∀ x ∈ l.take i, p x = false) (fun (i : Nat) => q - i) 0 (by repeat (first | exact kf_nil | (apply kf_in; focus rfl) | (apply kf_out; focus rfl))) (by repeat (first | exact kl_nil | exact kl_rest (by assumption) rfl | (apply kl_in; focus rfl) | (apply kl_out; focus rfl))) ?_ ?_ ?_ ?_
  · exact ⟨by omega, fun x hx => by simp at hx⟩
  · exact ⟨rfl, trivial⟩
  · exact trivial
  rintro i ⟨hp1, hp2⟩
  refine T_seq ?_
  refine T_region ?_
  refine S_ 9 rfl rfl rfl _ (y_bin rfl rfl rfl (fun _ => b_lss)) ?_
  refine S_go (fun _ _ h => h) ?_
  refine T_seq ?_
  refine T_cond rfl (fun h9 => ?_) (fun h9 => ?_)
  · try simp only [decide_eq_true_eq, decide_eq_false_iff_not, Bool.or_eq_true, Bool.or_eq_false_iff, Bool.and_eq_true, Bool.and_eq_false_iff, Bool.not_eq_true', Bool.not_eq_false', Bool.not_eq_true, Bool.not_eq_false, Bool.not_true, Bool.not_false, Int.not_lt, Int.not_le, not_or, not_and, Classical.not_not] at h9
    obtain ⟨x, hx1, hx2⟩ := hl.at (i := i) (by omega)
    refine T_skip_go (fun _ _ h => h) ?_
    refine T_seq ?_
    refine T_block ?_
    refine T_seq ?_
    refine T_region ?_
    refine S_ 10 rfl rfl rfl _ (y_move rfl rfl) ?_
    refine S_ 5 rfl rfl rfl _ (y_assign rfl rfl) ?_
    refine S_go (fun _ _ h => h) ?_
    refine T_seq ?_
    refine T_region ?_
    refine S_ 11 rfl rfl rfl _ (y_move rfl rfl) ?_
    refine S_ 12 rfl rfl rfl _ (y_move rfl rfl) ?_
    refine S_ 13 rfl rfl rfl _ (y_move rfl rfl) ?_
    refine S_ 14 rfl rfl rfl _ (y_indexAddr rfl rfl rfl Tryd.underlying49 sz128 (fun hg => hl.isSome (by omega)) (fun _ => by omega)) ?_
    refine S_ 15 rfl rfl rfl _ (y_loadT rfl rfl hl (fun _ => rfl) (fun _ => hx1) Tryd.underlying128 rfl sz128) ?_
    refine S_ 16 rfl rfl rfl _ (y_call rfl rfl rfl hcf (fun _ w2 hM => hA x w2 hM.below)) ?_
    refine S_go (fun _ _ h => h) ?_
    refine T_cond rfl (fun h16 => ?_) (fun h16 => ?_)
    · skip
      refine T_seq ?_
      refine T_region ?_
      refine S_ 17 rfl rfl rfl _ (y_move rfl rfl) ?_
      refine S_ 4 rfl rfl rfl _ (y_assign rfl rfl) ?_
      refine S_go (fun _ _ h => h) ?_
      refine T_ret (fun a w hF hM => hRb a w (post1 rfl rfl (fun w hM => ?_) a w hF hM))
      exact ⟨(i : Int), rfl, .inr ⟨i, rfl, hp2, x, hx1, h16⟩, hM.below⟩
    · skip
      refine T_skip_go (fun _ _ h => h) ?_
      refine T_region ?_
      refine S_ 18 rfl rfl rfl _ (y_bin rfl rfl rfl (fun hg => b_add (by omega))) ?_
      refine S_ 8 rfl rfl rfl _ (y_move rfl rfl) ?_
      refine S_nil (nextK1 (kf := [(4, 5), (8, 18)]) (kl := [(4, 5), (8, 18)]) (i + 1) (by repeat (first | exact kf_nil | (apply kf_in; focus rfl) | (apply kf_out; focus rfl))) (by repeat (first | exact kl_nil | exact kl_rest (by assumption) rfl | (apply kl_in; focus rfl) | (apply kl_out; focus rfl))) ?_ ?_ ?_ ?_)
      · omega
      · exact ⟨by omega, fun y hy => by
          rw [take_at hx1] at hy
          rcases List.mem_append.1 hy with hy | hy
          · exact hp2 y hy
          · simp only [List.mem_singleton] at hy; subst hy; exact h16⟩
      · exact ⟨rfl, trivial⟩
      · exact trivial
  · try simp only [decide_eq_true_eq, decide_eq_false_iff_not, Bool.or_eq_true, Bool.or_eq_false_iff, Bool.and_eq_true, Bool.and_eq_false_iff, Bool.not_eq_true', Bool.not_eq_false', Bool.not_eq_true, Bool.not_eq_false, Bool.not_true, Bool.not_false, Int.not_lt, Int.not_le, not_or, not_and, Classical.not_not] at h9
    refine T_exit_go (fun _ _ h => h) ?_
    refine T_seq ?_
    refine T_region ?_
    refine S_ 4 rfl rfl rfl _ (y_assign rfl rfl) ?_
    refine S_go (fun _ _ h => h) ?_
    refine T_ret (fun a w hF hM => hRb a w (post1 rfl rfl (fun w hM => ?_) a w hF hM))
    exact ⟨-1, rfl, .inl ⟨rfl, by rw [List.take_of_length_le (by omega)] at hp2; exact hp2⟩, hM.below⟩
theorem ContainsTag_any (A : Option Addr) (q c : Nat) (l : List STag) (g : FuncId) (cap : Array Value) (p : STag → Bool) (w : World) (hl : SlT STag.enc 2 w A q l) (hq : q ≤ 4611686018427387904) (hcf : ∀ args w', (callFunc g args).run Tryd.prog w' = .ok (.enter g args) w')
    (hA : ∀ (x : STag) w', Below w.heap.size w w' → Calls Tryd.prog g (#[.agg x.enc.toArray] ++ cap) w' fun e w'' => e = .returned (.bool (p x)) ∧ Below w'.heap.size w' w'') :
    Calls Tryd.prog 120 #[.slice A q c, .func (.func g) #[] cap] w fun e w' => e = .returned (.bool (l.any p)) ∧ Below w.heap.size w w' := by
  refine enter_args (args := [.slice A q c, .func (.func g) #[] cap]) (F := _) Tryd.func120 rfl Tryd.ntmps120 rfl rfl ?_
  intro Rb hRb hRn
  refine T_seq ?_
  refine T_region ?_
  refine S_ 4 rfl rfl rfl _ (y_assign rfl rfl) ?_
  refine S_go (fun _ _ h => h) ?_
  refine T_seq ?_
  refine T_region ?_
  refine S_ 5 rfl rfl rfl _ (y_move rfl rfl) ?_
  refine S_ 6 rfl rfl rfl _ (y_move rfl rfl) ?_
  refine S_callM 7 [] (X := Int) rfl rfl rfl rfl rfl rfl rfl cf195 rfl (fun n => .int .i64 n) (fun n => IsIdx p l n) (fun _ => []) (fun _ => rfl) (fun _ => rfl) (fun K1 hK1 w1 hM => (IndexTag_any A q c l g cap p w1 (hl.below hM.below) hq hcf fun x w2 hb => hA x w2 (hM.below.trans (hb.mono hM.below.size))).mono fun e w2 ⟨n, h1, h2, h3⟩ => ⟨n, h1, h2, hM.call h3⟩) ?_
  rintro n hn
  refine S_ 8 rfl rfl rfl _ (y_bin rfl rfl rfl (fun _ => b_geq)) ?_
  refine S_ 4 rfl rfl rfl _ (y_assign rfl rfl) ?_
  refine S_go (fun _ _ h => h) ?_
  refine T_ret (fun a w hF hM => hRb a w (post1 rfl rfl (fun w hM => ?_) a w hF hM))
  exact ⟨by rw [← isIdx_any hn], hM.below⟩
def notP (p : STag → Bool) (x : STag) : Bool := !p x
theorem del_step {p : STag → Bool} {l M : List STag} {k j : Nat} {x : STag} (h1 : M.take k = (l.take j).filter (notP p)) (h2 : M.drop j = l.drop j) (hx : l[j]? = some x) (hk : k < j) (hp : p x = false) :
    (M.set k x).take (k + 1) = (l.take (j + 1)).filter (notP p) ∧ (M.set k x).drop (j + 1) = l.drop (j + 1) := by
  have hl := (List.getElem?_eq_some_iff.1 hx).1
  have hM : M.length - j = l.length - j := by have := congrArg List.length h2; simpa only [List.length_drop] using this
  constructor
  · have hat : (M.set k x)[k]? = some x := by rw [List.getElem?_set_self (by omega)]
    rw [take_at hat, List.take_set_of_le (Nat.le_refl k), h1, take_at hx, List.filter_append, List.filter_cons, if_pos (by simp [notP, hp]), List.filter_nil]
  · rw [List.drop_set_of_lt (by omega), ← List.drop_drop (i := 1) (j := j), ← List.drop_drop (i := 1) (j := j), h2]
theorem del_skip {p : STag → Bool} {l M : List STag} {k j : Nat} {x : STag} (h1 : M.take k = (l.take j).filter (notP p)) (h2 : M.drop j = l.drop j) (hx : l[j]? = some x) (hp : p x = true) :
    M.take k = (l.take (j + 1)).filter (notP p) ∧ M.drop (j + 1) = l.drop (j + 1) := by
  constructor
  · rw [h1, take_at hx, List.filter_append, List.filter_cons, if_neg (by simp [notP, hp]), List.filter_nil, List.append_nil]
  · rw [← List.drop_drop (i := 1) (j := j), ← List.drop_drop (i := 1) (j := j), h2]
theorem flat_take {α : Type} {enc : α → List Value} {size : Nat} (hs : ∀ x, (enc x).length = size) : ∀ (l : List α) (k : Nat), (l.flatMap enc).take (k * size) = (l.take k).flatMap enc
  | [], k => by simp
  | a :: r, 0 => by simp
  | a :: r, k + 1 => by
    rw [List.flatMap_cons, List.take_succ_cons, List.flatMap_cons, Nat.succ_mul, List.take_append, hs, Nat.add_sub_cancel, flat_take hs r k, List.take_of_length_le (by rw [hs]; omega)]
set_option maxHeartbeats 1000000 in
theorem DeleteTag_any {w0 : World} {K : HL} (hK : FromK K) (bx : It) (A : Option Addr) (q c : Nat) (l : List STag) (g : FuncId) (cap : Array Value) (p : STag → Bool) (hlen : l.length = q) (hq : q ≤ 1000000000) (hcf : ∀ args w', (callFunc g args).run Tryd.prog w' = .ok (.enter g args) w')
    (hA : ∀ (x : STag) w', Mem w0 ([(1, bx)] ++ K) w' → Calls Tryd.prog g (#[.agg x.enc.toArray] ++ cap) w' fun e w'' => e = .returned (.bool (p x)) ∧ Below w'.heap.size w' w'') (w : World)
    (hM0 : Mem w0 ([(0, .own 128 2 (.slice A q c) q (l.flatMap STag.enc)), (1, bx)] ++ K) w) :
    Calls Tryd.prog 122 #[.slice A q c, .func (.func g) #[] cap] w fun e w' => ∃ z : Nat, e = .returned (.slice A z c) ∧ z = (l.filter (notP p)).length ∧ Mem w0 ([(0, .own 128 2 (.slice A z c) z ((l.filter (notP p)).flatMap STag.enc)), (1, bx)] ++ K) w' := by
  refine enterM_args (args := [.slice A q c, .func (.func g) #[] cap]) (F := _) hM0 Tryd.func122 rfl Tryd.ntmps122 rfl rfl ?_
  intro Rb hRb hRn
  refine T_some 0 rfl fun hA0 => ?_
  refine T_cap 0 rfl fun hcap => ?_
  refine T_seq ?_
  refine T_region ?_
  refine S_nilSlice 4 (e := 128) (size := 2) ?_
  refine S_ 4 rfl rfl rfl _ (y_assign rfl rfl) ?_
  refine S_go (fun _ _ h => h) ?_
  refine T_seq ?_
  refine T_region ?_
  refine S_ 8 rfl rfl rfl _ (y_move rfl rfl) ?_
  refine S_ 9 rfl rfl rfl _ (y_move rfl rfl) ?_
  refine S_call 10 (X := Int) rfl rfl rfl rfl rfl rfl rfl cf195 (fun n => .int .i64 n) (fun n => IsIdx p l n) (fun _ => _) (fun w1 hM => (IndexTag_any A q c l g cap p w1 (owned_T (enc := STag.enc) hM hlen (i := 0) rfl) (by omega) hcf fun x w2 hb => hA x w2 ((hM.call hb).keep (ks := [(0, 999)]) (by repeat (first | exact kl_rest (by assumption) rfl | (apply kl_in; focus rfl))) _ ⟨rfl, trivial⟩)).mono fun e w2 ⟨n, h1, h2, h3⟩ => ⟨n, h1, h2, hM.call h3⟩) ?_
  rintro n hn
  refine S_ 5 rfl rfl rfl _ (y_assign rfl rfl) ?_
  refine S_go (fun _ _ h => h) ?_
  refine T_seq ?_
  refine T_seq ?_
  refine T_region ?_
  refine S_ 11 rfl rfl rfl _ (y_move rfl rfl) ?_
  refine S_ 12 rfl rfl rfl _ (y_bin rfl rfl rfl (fun _ => b_eql)) ?_
  refine S_go (fun _ _ h => h) ?_
  refine T_cond rfl (fun h12 => ?_) (fun h12 => ?_)
  · skip
    have h12 : n = -1 := by simpa using h12
    have hall : l.filter (notP p) = l := by
      rcases hn with ⟨_, h⟩ | ⟨k, hk, _⟩
      · exact List.filter_eq_self.2 fun x hx => by simp [notP, h x hx]
      · omega
    refine T_seq ?_
    refine T_region ?_
    refine S_ 13 rfl rfl rfl _ (y_move rfl rfl) ?_
    refine S_ 4 rfl rfl rfl _ (y_assign rfl rfl) ?_
    refine S_go (fun _ _ h => h) ?_
    refine T_ret (fun a w hF hM => hRb a w (post1 rfl rfl (fun w hM => ?_) a w hF hM))
    exact ⟨q, rfl, by rw [hall, hlen], hM.keep (ks := [(0, 999)]) (by repeat (first | exact kl_rest (by assumption) rfl | (apply kl_in; focus rfl))) _ ⟨by rw [hall]; rfl, rfl, trivial⟩⟩
  · skip
    have h12 : ¬ n = -1 := by simpa using h12
    obtain ⟨k0, hn0, hn1, x0, hx0, hpx⟩ : ∃ k : Nat, n = k ∧ (∀ x ∈ l.take k, p x = false) ∧ ∃ x, l[k]? = some x ∧ p x = true := by
      rcases hn with ⟨h, _⟩ | h
      · exact absurd h h12
      · exact h
    subst hn0
    have hk0 := (List.getElem?_eq_some_iff.1 hx0).1
    refine T_skip_go (fun _ _ h => h) ?_
    refine T_seq ?_
    refine T_seq ?_
    refine T_region ?_
    refine S_ 14 rfl rfl rfl _ (y_move rfl rfl) ?_
    refine S_ 15 rfl rfl rfl _ (y_bin rfl rfl rfl (fun hg => b_addv (((k0 + 1 : Nat) : Int)) (by omega) (by omega))) ?_
    refine S_ 6 rfl rfl rfl _ (y_assign rfl rfl) ?_
    refine S_go (fun _ _ h => h) ?_
    refine T_block ?_
    refine T_loopK3 (kf := [(5, 7), (16, 35)]) (kl := [(0, 0), (5, 7), (16, 35)]) (fun (j k : Nat) (M : List STag) => [(6, true, .int .i64 (j : Int)), (5, true, .int .i64 (k : Int))]) (fun (j k : Nat) (M : List STag) => [(0, .own 128 2 (.slice A q c) q (M.flatMap STag.enc))]) (fun (j k : Nat) (M : List STag) => M.length = q ∧ M.take k = (l.take j).filter (notP p) ∧ M.drop j = l.drop j ∧ k < j ∧ j ≤ q) (fun (j k : Nat) (M : List STag) => q - j) (k0 + 1) k0 l (by repeat (first | exact kf_nil | (apply kf_in; focus rfl) | (apply kf_out; focus rfl))) (by repeat (first | exact kl_nil | exact kl_rest (by assumption) rfl | (apply kl_in; focus rfl) | (apply kl_out; focus rfl))) ?_ ?_ ?_ ?_
    · exact ⟨hlen, by rw [take_at hx0, List.filter_append, List.filter_cons, if_neg (by simp [notP, hpx]), List.filter_nil, List.append_nil]; exact (List.filter_eq_self.2 fun x hx => by simp [notP, hn1 x hx]).symm, rfl, by omega, by omega⟩
    · exact ⟨rfl, rfl, trivial⟩
    · exact ⟨rfl, trivial⟩
    rintro j k M ⟨hp1, hp2, hp3, hp4, hp5⟩
    refine T_seq ?_
    refine T_seq ?_
    refine T_region ?_
    refine S_ 16 rfl rfl rfl _ (y_move rfl rfl) ?_
    refine S_ 17 rfl rfl rfl _ (y_move rfl rfl) ?_
    refine S_ 18 rfl rfl rfl _ (y_len_slice rfl rfl Tryd.underlying49) ?_
    refine S_ 19 rfl rfl rfl _ (y_bin rfl rfl rfl (fun _ => b_lss)) ?_
    refine S_go (fun _ _ h => h) ?_
    refine T_cond rfl (fun h19 => ?_) (fun h19 => ?_)
    · try simp only [decide_eq_true_eq, decide_eq_false_iff_not, Bool.or_eq_true, Bool.or_eq_false_iff, Bool.and_eq_true, Bool.and_eq_false_iff, Bool.not_eq_true', Bool.not_eq_false', Bool.not_eq_true, Bool.not_eq_false, Bool.not_true, Bool.not_false, Int.not_lt, Int.not_le, not_or, not_and, Classical.not_not] at h19
      obtain ⟨x, hx1, hx2⟩ := at_lt (l := l) (i := j) (by omega)
      have hMx : M[j]? = some x := by
        have h := congrArg (·[0]?) hp3
        simpa [List.getElem?_drop, hx1] using h
      refine T_skip_go (fun _ _ h => h) ?_
      refine T_seq ?_
      refine T_block ?_
      refine T_seq ?_
      refine T_region ?_
      refine S_ 22 rfl rfl rfl _ (y_move rfl rfl) ?_
      refine S_ 23 rfl rfl rfl _ (y_move rfl rfl) ?_
      refine S_ 24 rfl rfl rfl _ (y_indexAddr rfl rfl rfl Tryd.underlying49 sz128 (fun hg => hA0 (by omega)) (fun _ => by omega)) ?_
      refine S_ 25 rfl rfl rfl _ (y_loadO 0 rfl rfl rfl (by omega) (fun _ => rfl) (fun _ => hMx) Tryd.underlying128 rfl sz128) ?_
      refine S_alloc 7 7 rfl rfl rfl rfl z128 ?_
      intro b7
      refine S_store 7 rfl rfl rfl rfl rfl rfl sz128 rfl rfl ?_
      refine S_go (fun _ _ h => h) ?_
      refine T_seq ?_
      refine T_region ?_
      refine S_ 26 rfl rfl rfl _ (y_move rfl rfl) ?_
      refine S_ 27 rfl rfl rfl _ (y_loadA 7 rfl rfl rfl Tryd.underlying128 rfl sz128) ?_
      refine S_ 28 rfl rfl rfl _ (y_call rfl rfl rfl hcf (fun _ w hM => hA x w (hM.keep (ks := [(0, 999)]) (by repeat (first | exact kl_rest (by assumption) rfl | (apply kl_in; focus rfl))) _ ⟨rfl, trivial⟩))) ?_
      refine S_ 29 rfl rfl rfl _ (y_not rfl rfl) ?_
      refine S_go (fun _ _ h => h) ?_
      refine T_cond rfl (fun h29 => ?_) (fun h29 => ?_)
      · skip
        have h29 : p x = false := by simpa using h29
        obtain ⟨hd1, hd2⟩ := del_step hp2 hp3 hx1 hp4 h29
        refine T_seq ?_
        refine T_region ?_
        refine S_ 30 rfl rfl rfl _ (y_move rfl rfl) ?_
        refine S_ 31 rfl rfl rfl _ (y_move rfl rfl) ?_
        refine S_ 32 rfl rfl rfl _ (y_loadA 7 rfl rfl rfl Tryd.underlying128 rfl sz128) ?_
        refine S_ 33 rfl rfl rfl _ (y_indexAddr rfl rfl rfl Tryd.underlying49 sz128 (fun hg => hA0 (by omega)) (fun _ => by omega)) ?_
        refine S_storeEl 0 rfl rfl rfl rfl rfl rfl sz128 rfl rfl rfl ?_ (xs' := (M.set k x).flatMap STag.enc) ?_ ?_
        · omega
        · exact flat_setE (enc := STag.enc) (size := 2) (fun _ => rfl) (by omega)
        refine S_go (fun _ _ h => h) ?_
        refine T_region ?_
        refine S_ 34 rfl rfl rfl _ (y_move rfl rfl) ?_
        refine S_ 35 rfl rfl rfl _ (y_bin rfl rfl rfl (fun hg => b_addv (((k + 1 : Nat) : Int)) (by omega) (by omega))) ?_
        refine S_ 5 rfl rfl rfl _ (y_assign rfl rfl) ?_
        refine S_go (fun _ _ h => h) ?_
        refine T_region ?_
        refine S_ 20 rfl rfl rfl _ (y_move rfl rfl) ?_
        refine S_ 21 rfl rfl rfl _ (y_bin rfl rfl rfl (fun hg => b_addv (((j + 1 : Nat) : Int)) (by omega) (by omega))) ?_
        refine S_ 6 rfl rfl rfl _ (y_assign rfl rfl) ?_
        refine S_nil (nextK3 (kf := [(5, 7), (16, 35)]) (kl := [(0, 0), (5, 7), (16, 35)]) (j + 1) (k + 1) (M.set k x) (by repeat (first | exact kf_nil | (apply kf_in; focus rfl) | (apply kf_out; focus rfl))) (by repeat (first | exact kl_nil | exact kl_rest (by assumption) rfl | (apply kl_in; focus rfl) | (apply kl_out; focus rfl))) ?_ ?_ ?_ ?_)
        · omega
        · exact ⟨by rw [List.length_set]; exact hp1, hd1, hd2, by omega, by omega⟩
        · exact ⟨rfl, rfl, trivial⟩
        · exact ⟨rfl, trivial⟩
      · skip
        have h29 : p x = true := by simpa using h29
        obtain ⟨hd1, hd2⟩ := del_skip hp2 hp3 hx1 h29
        refine T_skip_go (fun _ _ h => h) ?_
        refine T_region ?_
        refine S_ 20 rfl rfl rfl _ (y_move rfl rfl) ?_
        refine S_ 21 rfl rfl rfl _ (y_bin rfl rfl rfl (fun hg => b_addv (((j + 1 : Nat) : Int)) (by omega) (by omega))) ?_
        refine S_ 6 rfl rfl rfl _ (y_assign rfl rfl) ?_
        refine S_nil (nextK3 (kf := [(5, 7), (16, 35)]) (kl := [(0, 0), (5, 7), (16, 35)]) (j + 1) k M (by repeat (first | exact kf_nil | (apply kf_in; focus rfl) | (apply kf_out; focus rfl))) (by repeat (first | exact kl_nil | exact kl_rest (by assumption) rfl | (apply kl_in; focus rfl) | (apply kl_out; focus rfl))) ?_ ?_ ?_ ?_)
        · omega
        · exact ⟨hp1, hd1, hd2, by omega, by omega⟩
        · exact ⟨rfl, rfl, trivial⟩
        · exact ⟨rfl, trivial⟩
    · try simp only [decide_eq_true_eq, decide_eq_false_iff_not, Bool.or_eq_true, Bool.or_eq_false_iff, Bool.and_eq_true, Bool.and_eq_false_iff, Bool.not_eq_true', Bool.not_eq_false', Bool.not_eq_true, Bool.not_eq_false, Bool.not_true, Bool.not_false, Int.not_lt, Int.not_le, not_or, not_and, Classical.not_not] at h19
      have hfin : (l.filter (notP p)) = M.take k := by rw [hp2, List.take_of_length_le (by omega)]
      have hkl : (M.take k).length = k := by rw [List.length_take]; omega
      refine T_exit_go (fun _ _ h => h) ?_
      refine T_seq ?_
      refine T_region ?_
      refine S_ 36 rfl rfl rfl _ (y_move rfl rfl) ?_
      refine S_ 37 rfl rfl rfl _ (y_move rfl rfl) ?_
      refine S_ 38 rfl rfl rfl _ (y_slice (lo := k) (hi := q) rfl rfl Tryd.underlying49 sz128 (.inr ⟨_, _, rfl, rfl⟩) (.inl ⟨rfl, rfl⟩) (by omega) (Nat.le_refl _) hcap) ?_
      refine S_clearTail 0 (k) rfl rfl rfl rfl rfl ?_ Tryd.underlying49 z128 rfl rfl ?_
      · omega
      refine S_go (fun _ _ h => h) ?_
      refine T_seq ?_
      refine T_region ?_
      refine S_ 39 rfl rfl rfl _ (y_move rfl rfl) ?_
      refine S_ 40 rfl rfl rfl _ (y_move rfl rfl) ?_
      refine S_ 41 rfl rfl rfl _ (y_as (v' := .slice A k c) (by rw [slice0, Nat.sub_zero, Nat.sub_zero]) (y_slice (lo := 0) (hi := k) rfl rfl Tryd.underlying49 sz128 (.inl ⟨rfl, rfl⟩) (.inr ⟨_, _, rfl, rfl⟩) (by omega) (by omega) hcap)) ?_
      refine S_ 4 rfl rfl rfl _ (y_assign rfl rfl) ?_
      refine S_go (fun _ _ h => h) ?_
      refine T_ret (fun a w hF hM => hRb a w (post1 rfl rfl (fun w hM => ?_) a w hF hM))
      exact ⟨k, rfl, by rw [hfin, hkl], hM.keep (ks := [(0, 999)]) (by repeat (first | exact kl_rest (by assumption) rfl | (apply kl_in; focus rfl))) _ ⟨by rw [hfin, ← flat_take (enc := STag.enc) (size := 2) (fun _ => rfl)]; rfl, rfl, trivial⟩⟩
end Go.Proofs.YtoeipmepmlikcaaDoor
