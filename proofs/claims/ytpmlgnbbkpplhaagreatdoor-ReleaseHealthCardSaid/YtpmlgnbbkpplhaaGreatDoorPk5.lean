/- Part 5, merged by a program. HealthOf and the law ReleaseHealth walked. Conditions: those of each theorem. Events opened: from the form's reading to 'Evt.Ok'. No condition. A world in which the listed tables of Go's hold what their text says, and what a row's condition says of the table of trailing noughts. No condition. A world in which the listed tables hold what their text says, and the two errors of strconv lie as their initialisers lay them. No condition. -/
import Derived.Test.YtpmlgnbbkpplhaaGreatDoorClr
import Derived.Test.YtpmlgnbbkpplhaaGreatDoorSwp
import Derived.Test.YtpmlgnbbkpplhaaGreatDoorCopy
import Derived.Test.YtpmlgnbbkpplhaaGreatDoorOpen
import Derived.Test.YtpmlgnbbkpplhaaGreatDoorCards
import Derived.Test.YtpmlgnbbkpplhaaGreatDoorTie
import Derived.Deep.DeepHandedRow
import Derived.Lib.LaidTab
import Derived.Stop.LaidErr
import Derived.ProofKit
import Derived.OpenShut
import Derived.Test.YtpmlgnbbkpplhaaGreatDoorPk4
section
namespace Go.Proofs.YtpmlgnbbkpplhaaGreatDoor
set_option linter.unusedSimpArgs false
set_option linter.unusedVariables false
set_option maxRecDepth 20000
open Go.RowKit Go.Eng
theorem T_some {P : Program} {w0 : World} {n : Nat} {k : Code} {F : FL} {L : HL} {Q : Exit → Act → World → Prop} (i : Nat) {e : TypeId} {size q c : Nat} {A : Option Addr} {xs : List Value} (hL : L.get i = some (.own e size (.slice A q c) q xs)) (h : (0 < q → A.isSome = true) → T P w0 n k F L Q) : T P w0 n k F L Q :=
  fun a w hF hM => h (fun h0 => SlR.isSome (own_reads hM hL) h0) a w hF hM
theorem CloneSes_any (l : Sl SSes) (w : World) (hl : l.Ok SSes.enc 5 w) (hq : l.q * 100 ≤ 140737488351232) :
    Calls Tryz.prog 139 #[.slice l.A l.q l.c] w fun e w' => ∃ A c, e = .returned (.slice A l.q c) ∧ w'.ownsRow w.heap.size 87 5 (.slice A l.q c) l.q (l.l.flatMap SSes.enc) ∧ Below w.heap.size w w' := by
  have hlen := hl.t.len
  refine enter_args (args := [.slice l.A l.q l.c]) (F := _) Tryz.func139 rfl Tryz.ntmps139 rfl rfl ?_
  intro Rb hRb hRn
  refine T_seq ?_
  refine T_region ?_
  refine S_nilSlice 2 (e := 87) (size := 5) ?_
  refine S_ 2 rfl rfl rfl _ (y_assign rfl rfl) ?_
  refine S_go (fun _ _ h => h) ?_
  refine T_seq ?_
  refine T_seq ?_
  refine T_region ?_
  refine S_ 3 rfl rfl rfl _ (y_move rfl rfl) ?_
  refine S_ 4 rfl rfl rfl _ (y_bin rfl rfl rfl (fun _ => b_eqln Tryz.underlying85)) ?_
  refine S_go (fun _ _ h => h) ?_
  refine T_cond rfl (fun h4 => ?_) (fun h4 => ?_)
  · skip
    refine T_seq ?_
    refine T_region ?_
    refine S_nilSlice 2 (e := 87) (size := 5) ?_
    refine S_ 2 rfl rfl rfl _ (y_assign rfl rfl) ?_
    refine S_go (fun _ _ h => h) ?_
    refine T_ret (fun a w hF hM => hRb a w (post1 rfl rfl (fun w hM => ?_) a w hF hM))
    have hA : l.A = none := by cases h : l.A with
      | none => rfl
      | some a => rw [h] at h4; cases h4
    have h0 : l.q = 0 := by
      rcases Nat.eq_zero_or_pos l.q with h | h
      · exact h
      · have := hl.t.isSome h; rw [hA] at this; cases this
    have hn : l.l = [] := List.eq_nil_of_length_eq_zero (by omega)
    rw [h0, hn]
    exact ⟨none, 0, rfl, World.ownsRow_nil _ _ _ _, hM.below⟩
  · skip
    refine T_skip_go (fun _ _ h => h) ?_
    refine T_seq ?_
    refine T_region ?_
    refine S_buildSlice0 5 5 rfl rfl rfl rfl Tryz.underlying85 sz87 ?_
    intro b5
    refine S_ 6 rfl rfl rfl _ (y_move rfl rfl) ?_
    obtain ⟨i7, hi7, hz7, hs7, hy7⟩ := info_parts inf87
    refine S_appendG 7 5 (news := l.l.flatMap SSes.enc) rfl rfl rfl rfl rfl rfl rfl (fun w hM => hl.t.rd.below hM.below) Tryz.underlying85 hi7 hz7 hs7 hy7 rfl (by decide) (allOne_of (fun u hu => by obtain ⟨a, _, ha⟩ := List.mem_flatMap.1 hu; simp [SSes.enc] at ha; rcases ha with rfl | rfl | rfl | rfl | rfl <;> rfl)) ?_ ?_ (l.q) (l.l.flatMap SSes.enc) ?_ ?_ ?_
    · (simp only [maxLen]; omega)
    · omega
    · omega
    · rfl
    intro A7 c7
    refine S_ 2 rfl rfl rfl _ (y_assign rfl rfl) ?_
    refine S_go (fun _ _ h => h) ?_
    refine T_ret (fun a w hF hM => hRb a w (post1 rfl rfl (fun w hM => ?_) a w hF hM))
    exact ⟨A7, c7, rfl, hM.sat 5 _ rfl, hM.below⟩
/-- the place of the first that answers p, or -1 -/
def IsIdxS (p : SSes → Bool) (l : List SSes) (n : Int) : Prop := (n = -1 ∧ ∀ x ∈ l, p x = false) ∨ ∃ k : Nat, n = k ∧ (∀ x ∈ l.take k, p x = false) ∧ ∃ x, l[k]? = some x ∧ p x = true
theorem IndexSes_any (A : Option Addr) (q c : Nat) (l : List SSes) (g : FuncId) (cap : Array Value) (p : SSes → Bool) (w : World) (hl : SlT SSes.enc 5 w A q l) (hq : q ≤ 4611686018427387904) (hcf : ∀ args w', (callFunc g args).run Tryz.prog w' = .ok (.enter g args) w')
    (hA : ∀ (x : SSes) w', Below w.heap.size w w' → Calls Tryz.prog g (#[.agg x.enc.toArray] ++ cap) w' fun e w'' => e = .returned (.bool (p x)) ∧ Below w'.heap.size w' w'') :
    Calls Tryz.prog 220 #[.slice A q c, .func (.func g) #[] cap] w fun e w' => ∃ n : Int, e = .returned (.int .i64 n) ∧ IsIdxS p l n ∧ Below w.heap.size w w' := by
  have hlen := hl.len
  refine enter_args (args := [.slice A q c, .func (.func g) #[] cap]) (F := _) Tryz.func220 rfl Tryz.ntmps220 rfl rfl ?_
  intro Rb hRb hRn
  refine T_seq ?_
  refine T_region ?_
  refine S_ 4 rfl rfl rfl _ (y_assign rfl rfl) ?_
  refine S_go (fun _ _ h => h) ?_
  refine T_seq ?_
  refine T_seq ?_
  refine T_region ?_
  refine S_ 6 rfl rfl rfl _ (y_move rfl rfl) ?_
  refine S_ 7 rfl rfl rfl _ (y_len_slice rfl rfl Tryz.underlying85) ?_
  refine S_ 8 rfl rfl rfl _ (y_move rfl rfl) ?_
  refine S_go (fun _ _ h => h) ?_
  refine T_block ?_
  refine T_loopK1 (kf := [(4, 5), (8, 18)]) (kl := [(4, 5), (8, 18)]) (fun (i : Nat) => [(8, true, .int .i64 (i : Int))]) (fun (i : Nat) => []) (fun (i : Nat) => i ≤ q ∧ ∀ x ∈ l.take i, p x = false) (fun (i : Nat) => q - i) 0 (by repeat (first | exact kf_nil | (apply kf_in; focus rfl) | (apply kf_out; focus rfl))) (by repeat (first | exact kl_nil | exact kl_rest (by assumption) rfl | (apply kl_in; focus rfl) | (apply kl_out; focus rfl))) ?_ ?_ ?_ ?_
  · exact ⟨by omega, fun x hx => by simp at hx⟩
  · exact ⟨rfl, trivial⟩
  · exact trivial
  rintro i ⟨hp1, hp2⟩
  refine T_seq ?_
  refine T_region ?_
  refine S_ 9 rfl rfl rfl _ (y_bin rfl rfl rfl (fun _ => b_lss)) ?_
  refine S_go (fun _ _ h => h) ?_
  refine T_seq ?_
  refine T_cond rfl (fun h9 => ?_) (fun h9 => ?_)
  · try simp only [decide_eq_true_eq, decide_eq_false_iff_not, Bool.or_eq_true, Bool.or_eq_false_iff, Bool.and_eq_true, Bool.and_eq_false_iff, Bool.not_eq_true', Bool.not_eq_false', Bool.not_eq_true, Bool.not_eq_false, Bool.not_true, Bool.not_false, Int.not_lt, Int.not_le, not_or, not_and, Classical.not_not] at h9
    obtain ⟨x, hx1, hx2⟩ := hl.at (i := i) (by omega)
    refine T_skip_go (fun _ _ h => h) ?_
    refine T_seq ?_
    refine T_block ?_
    refine T_seq ?_
    refine T_region ?_
    refine S_ 10 rfl rfl rfl _ (y_move rfl rfl) ?_
    refine S_ 5 rfl rfl rfl _ (y_assign rfl rfl) ?_
    refine S_go (fun _ _ h => h) ?_
    refine T_seq ?_
    refine T_region ?_
    refine S_ 11 rfl rfl rfl _ (y_move rfl rfl) ?_
    refine S_ 12 rfl rfl rfl _ (y_move rfl rfl) ?_
    refine S_ 13 rfl rfl rfl _ (y_move rfl rfl) ?_
    refine S_ 14 rfl rfl rfl _ (y_indexAddr rfl rfl rfl Tryz.underlying85 sz87 (fun hg => hl.isSome (by omega)) (fun _ => by omega)) ?_
    refine S_ 15 rfl rfl rfl _ (y_loadT rfl rfl hl (fun _ => rfl) (fun _ => hx1) Tryz.underlying87 rfl sz87) ?_
    refine S_ 16 rfl rfl rfl _ (y_call rfl rfl rfl hcf (fun _ w2 hM => hA x w2 hM.below)) ?_
    refine S_go (fun _ _ h => h) ?_
    refine T_cond rfl (fun h16 => ?_) (fun h16 => ?_)
    · skip
      refine T_seq ?_
      refine T_region ?_
      refine S_ 17 rfl rfl rfl _ (y_move rfl rfl) ?_
      refine S_ 4 rfl rfl rfl _ (y_assign rfl rfl) ?_
      refine S_go (fun _ _ h => h) ?_
      refine T_ret (fun a w hF hM => hRb a w (post1 rfl rfl (fun w hM => ?_) a w hF hM))
      exact ⟨(i : Int), rfl, .inr ⟨i, rfl, hp2, x, hx1, h16⟩, hM.below⟩
    · skip
      refine T_skip_go (fun _ _ h => h) ?_
      refine T_region ?_
      refine S_ 18 rfl rfl rfl _ (y_bin rfl rfl rfl (fun hg => b_add (by omega))) ?_
      refine S_ 8 rfl rfl rfl _ (y_move rfl rfl) ?_
      refine S_nil (nextK1 (kf := [(4, 5), (8, 18)]) (kl := [(4, 5), (8, 18)]) (i + 1) (by repeat (first | exact kf_nil | (apply kf_in; focus rfl) | (apply kf_out; focus rfl))) (by repeat (first | exact kl_nil | exact kl_rest (by assumption) rfl | (apply kl_in; focus rfl) | (apply kl_out; focus rfl))) ?_ ?_ ?_ ?_)
      · omega
      · exact ⟨by omega, fun y hy => by
          rw [takeS hx1] at hy
          rcases List.mem_append.1 hy with hy | hy
          · exact hp2 y hy
          · simp only [List.mem_singleton] at hy; subst hy; exact h16⟩
      · exact ⟨rfl, trivial⟩
      · exact trivial
  · try simp only [decide_eq_true_eq, decide_eq_false_iff_not, Bool.or_eq_true, Bool.or_eq_false_iff, Bool.and_eq_true, Bool.and_eq_false_iff, Bool.not_eq_true', Bool.not_eq_false', Bool.not_eq_true, Bool.not_eq_false, Bool.not_true, Bool.not_false, Int.not_lt, Int.not_le, not_or, not_and, Classical.not_not] at h9
    refine T_exit_go (fun _ _ h => h) ?_
    refine T_seq ?_
    refine T_region ?_
    refine S_ 4 rfl rfl rfl _ (y_assign rfl rfl) ?_
    refine S_go (fun _ _ h => h) ?_
    refine T_ret (fun a w hF hM => hRb a w (post1 rfl rfl (fun w hM => ?_) a w hF hM))
    exact ⟨-1, rfl, .inl ⟨rfl, by rw [List.take_of_length_le (by omega)] at hp2; exact hp2⟩, hM.below⟩
def notS (p : SSes → Bool) (x : SSes) : Bool := !p x
theorem del_stepS {p : SSes → Bool} {l M : List SSes} {k j : Nat} {x : SSes} (h1 : M.take k = (l.take j).filter (notS p)) (h2 : M.drop j = l.drop j) (hx : l[j]? = some x) (hk : k < j) (hp : p x = false) :
    (M.set k x).take (k + 1) = (l.take (j + 1)).filter (notS p) ∧ (M.set k x).drop (j + 1) = l.drop (j + 1) := by
  have hl := (List.getElem?_eq_some_iff.1 hx).1
  have hM : M.length - j = l.length - j := by have := congrArg List.length h2; simpa only [List.length_drop] using this
  constructor
  · have hat : (M.set k x)[k]? = some x := by rw [List.getElem?_set_self (by omega)]
    rw [takeS hat, List.take_set_of_le (Nat.le_refl k), h1, takeS hx, List.filter_append, List.filter_cons, if_pos (by simp [notS, hp]), List.filter_nil]
  · rw [List.drop_set_of_lt (by omega), ← List.drop_drop (i := 1) (j := j), ← List.drop_drop (i := 1) (j := j), h2]
theorem del_skipS {p : SSes → Bool} {l M : List SSes} {k j : Nat} {x : SSes} (h1 : M.take k = (l.take j).filter (notS p)) (h2 : M.drop j = l.drop j) (hx : l[j]? = some x) (hp : p x = true) :
    M.take k = (l.take (j + 1)).filter (notS p) ∧ M.drop (j + 1) = l.drop (j + 1) := by
  constructor
  · rw [h1, takeS hx, List.filter_append, List.filter_cons, if_neg (by simp [notS, hp]), List.filter_nil, List.append_nil]
  · rw [← List.drop_drop (i := 1) (j := j), ← List.drop_drop (i := 1) (j := j), h2]
theorem flat_takeS {α : Type} {enc : α → List Value} {size : Nat} (hs : ∀ x, (enc x).length = size) : ∀ (l : List α) (k : Nat), (l.flatMap enc).take (k * size) = (l.take k).flatMap enc
  | [], k => by simp
  | a :: r, 0 => by simp
  | a :: r, k + 1 => by
    rw [List.flatMap_cons, List.take_succ_cons, List.flatMap_cons, Nat.succ_mul, List.take_append, hs, Nat.add_sub_cancel, flat_takeS hs r k, List.take_of_length_le (by rw [hs]; omega)]
set_option maxHeartbeats 1000000 in
theorem DeleteSes_any {w0 : World} {K : HL} (hK : FromK K) (bx bx2 : It) (A : Option Addr) (q c : Nat) (l : List SSes) (g : FuncId) (cap : Array Value) (p : SSes → Bool) (hlen : l.length = q) (hq : q ≤ 1000000000) (hcf : ∀ args w', (callFunc g args).run Tryz.prog w' = .ok (.enter g args) w')
    (hA : ∀ (x : SSes) w', Mem w0 ([(1, bx), (2, bx2)] ++ K) w' → Calls Tryz.prog g (#[.agg x.enc.toArray] ++ cap) w' fun e w'' => e = .returned (.bool (p x)) ∧ Below w'.heap.size w' w'') (w : World)
    (hM0 : Mem w0 ([(0, .own 87 5 (.slice A q c) q (l.flatMap SSes.enc)), (1, bx), (2, bx2)] ++ K) w) :
    Calls Tryz.prog 138 #[.slice A q c, .func (.func g) #[] cap] w fun e w' => ∃ z : Nat, e = .returned (.slice A z c) ∧ z = (l.filter (notS p)).length ∧ Mem w0 ([(0, .own 87 5 (.slice A z c) z ((l.filter (notS p)).flatMap SSes.enc)), (1, bx), (2, bx2)] ++ K) w' := by
  refine enterM_args (args := [.slice A q c, .func (.func g) #[] cap]) (F := _) hM0 Tryz.func138 rfl Tryz.ntmps138 rfl rfl ?_
  intro Rb hRb hRn
  refine T_some 0 rfl fun hA0 => ?_
  refine T_cap 0 rfl fun hcap => ?_
  refine T_seq ?_
  refine T_region ?_
  refine S_nilSlice 4 (e := 87) (size := 5) ?_
  refine S_ 4 rfl rfl rfl _ (y_assign rfl rfl) ?_
  refine S_go (fun _ _ h => h) ?_
  refine T_seq ?_
  refine T_region ?_
  refine S_ 8 rfl rfl rfl _ (y_move rfl rfl) ?_
  refine S_ 9 rfl rfl rfl _ (y_move rfl rfl) ?_
  refine S_call 10 (X := Int) rfl rfl rfl rfl rfl rfl rfl cf220 (fun n => .int .i64 n) (fun n => IsIdxS p l n) (fun _ => _) (fun w1 hM => (IndexSes_any A q c l g cap p w1 (owned_T (enc := SSes.enc) hM hlen (i := 0) rfl) (by omega) hcf fun x w2 hb => hA x w2 ((hM.call hb).keep (ks := [(0, 999)]) (by repeat (first | exact kl_rest (by assumption) rfl | (apply kl_in; focus rfl))) _ ⟨rfl, rfl, trivial⟩)).mono fun e w2 ⟨n, h1, h2, h3⟩ => ⟨n, h1, h2, hM.call h3⟩) ?_
  rintro n hn
  refine S_ 5 rfl rfl rfl _ (y_assign rfl rfl) ?_
  refine S_go (fun _ _ h => h) ?_
  refine T_seq ?_
  refine T_seq ?_
  refine T_region ?_
  refine S_ 11 rfl rfl rfl _ (y_move rfl rfl) ?_
  refine S_ 12 rfl rfl rfl _ (y_bin rfl rfl rfl (fun _ => b_eql)) ?_
  refine S_go (fun _ _ h => h) ?_
  refine T_cond rfl (fun h12 => ?_) (fun h12 => ?_)
  · skip
    have h12 : n = -1 := by simpa using h12
    have hall : l.filter (notS p) = l := by
      rcases hn with ⟨_, h⟩ | ⟨k, hk, _⟩
      · exact List.filter_eq_self.2 fun x hx => by simp [notS, h x hx]
      · omega
    refine T_seq ?_
    refine T_region ?_
    refine S_ 13 rfl rfl rfl _ (y_move rfl rfl) ?_
    refine S_ 4 rfl rfl rfl _ (y_assign rfl rfl) ?_
    refine S_go (fun _ _ h => h) ?_
    refine T_ret (fun a w hF hM => hRb a w (post1 rfl rfl (fun w hM => ?_) a w hF hM))
    exact ⟨q, rfl, by rw [hall, hlen], hM.keep (ks := [(0, 999)]) (by repeat (first | exact kl_rest (by assumption) rfl | (apply kl_in; focus rfl))) _ ⟨by rw [hall]; rfl, rfl, rfl, trivial⟩⟩
  · skip
    have h12 : ¬ n = -1 := by simpa using h12
    obtain ⟨k0, hn0, hn1, x0, hx0, hpx⟩ : ∃ k : Nat, n = k ∧ (∀ x ∈ l.take k, p x = false) ∧ ∃ x, l[k]? = some x ∧ p x = true := by
      rcases hn with ⟨h, _⟩ | h
      · exact absurd h h12
      · exact h
    subst hn0
    have hk0 := (List.getElem?_eq_some_iff.1 hx0).1
    refine T_skip_go (fun _ _ h => h) ?_
    refine T_seq ?_
    refine T_seq ?_
    refine T_region ?_
    refine S_ 14 rfl rfl rfl _ (y_move rfl rfl) ?_
    refine S_ 15 rfl rfl rfl _ (y_bin rfl rfl rfl (fun hg => b_addv (((k0 + 1 : Nat) : Int)) (by omega) (by omega))) ?_
    refine S_ 6 rfl rfl rfl _ (y_assign rfl rfl) ?_
    refine S_go (fun _ _ h => h) ?_
    refine T_block ?_
    refine T_loopK3 (kf := [(5, 7), (16, 35)]) (kl := [(0, 0), (5, 7), (16, 35)]) (fun (j k : Nat) (M : List SSes) => [(6, true, .int .i64 (j : Int)), (5, true, .int .i64 (k : Int))]) (fun (j k : Nat) (M : List SSes) => [(0, .own 87 5 (.slice A q c) q (M.flatMap SSes.enc))]) (fun (j k : Nat) (M : List SSes) => M.length = q ∧ M.take k = (l.take j).filter (notS p) ∧ M.drop j = l.drop j ∧ k < j ∧ j ≤ q) (fun (j k : Nat) (M : List SSes) => q - j) (k0 + 1) k0 l (by repeat (first | exact kf_nil | (apply kf_in; focus rfl) | (apply kf_out; focus rfl))) (by repeat (first | exact kl_nil | exact kl_rest (by assumption) rfl | (apply kl_in; focus rfl) | (apply kl_out; focus rfl))) ?_ ?_ ?_ ?_
    · exact ⟨hlen, by rw [takeS hx0, List.filter_append, List.filter_cons, if_neg (by simp [notS, hpx]), List.filter_nil, List.append_nil]; exact (List.filter_eq_self.2 fun x hx => by simp [notS, hn1 x hx]).symm, rfl, by omega, by omega⟩
    · exact ⟨rfl, rfl, trivial⟩
    · exact ⟨rfl, trivial⟩
    rintro j k M ⟨hp1, hp2, hp3, hp4, hp5⟩
    refine T_seq ?_
    refine T_seq ?_
    refine T_region ?_
    refine S_ 16 rfl rfl rfl _ (y_move rfl rfl) ?_
    refine S_ 17 rfl rfl rfl _ (y_move rfl rfl) ?_
    refine S_ 18 rfl rfl rfl _ (y_len_slice rfl rfl Tryz.underlying85) ?_
    refine S_ 19 rfl rfl rfl _ (y_bin rfl rfl rfl (fun _ => b_lss)) ?_
    refine S_go (fun _ _ h => h) ?_
    refine T_cond rfl (fun h19 => ?_) (fun h19 => ?_)
    · try simp only [decide_eq_true_eq, decide_eq_false_iff_not, Bool.or_eq_true, Bool.or_eq_false_iff, Bool.and_eq_true, Bool.and_eq_false_iff, Bool.not_eq_true', Bool.not_eq_false', Bool.not_eq_true, Bool.not_eq_false, Bool.not_true, Bool.not_false, Int.not_lt, Int.not_le, not_or, not_and, Classical.not_not] at h19
      obtain ⟨x, hx1⟩ : ∃ x, l[j]? = some x := ⟨_, List.getElem?_eq_getElem (by omega)⟩
      have hMx : M[j]? = some x := by
        have h := congrArg (·[0]?) hp3
        simpa [List.getElem?_drop, hx1] using h
      refine T_skip_go (fun _ _ h => h) ?_
      refine T_seq ?_
      refine T_block ?_
      refine T_seq ?_
      refine T_region ?_
      refine S_ 22 rfl rfl rfl _ (y_move rfl rfl) ?_
      refine S_ 23 rfl rfl rfl _ (y_move rfl rfl) ?_
      refine S_ 24 rfl rfl rfl _ (y_indexAddr rfl rfl rfl Tryz.underlying85 sz87 (fun hg => hA0 (by omega)) (fun _ => by omega)) ?_
      refine S_ 25 rfl rfl rfl _ (y_loadO 0 rfl rfl rfl (by omega) (fun _ => rfl) (fun _ => hMx) Tryz.underlying87 rfl sz87) ?_
      refine S_alloc 7 7 rfl rfl rfl rfl z87 ?_
      intro b7
      refine S_store 7 rfl rfl rfl rfl rfl rfl sz87 rfl rfl ?_
      refine S_go (fun _ _ h => h) ?_
      refine T_seq ?_
      refine T_region ?_
      refine S_ 26 rfl rfl rfl _ (y_move rfl rfl) ?_
      refine S_ 27 rfl rfl rfl _ (y_loadA 7 rfl rfl rfl Tryz.underlying87 rfl sz87) ?_
      refine S_ 28 rfl rfl rfl _ (y_call rfl rfl rfl hcf (fun _ w hM => hA x w (hM.keep (ks := [(0, 999)]) (by repeat (first | exact kl_rest (by assumption) rfl | (apply kl_in; focus rfl))) _ ⟨rfl, rfl, trivial⟩))) ?_
      refine S_ 29 rfl rfl rfl _ (y_not rfl rfl) ?_
      refine S_go (fun _ _ h => h) ?_
      refine T_cond rfl (fun h29 => ?_) (fun h29 => ?_)
      · skip
        have h29 : p x = false := by simpa using h29
        obtain ⟨hd1, hd2⟩ := del_stepS hp2 hp3 hx1 hp4 h29
        refine T_seq ?_
        refine T_region ?_
        refine S_ 30 rfl rfl rfl _ (y_move rfl rfl) ?_
        refine S_ 31 rfl rfl rfl _ (y_move rfl rfl) ?_
        refine S_ 32 rfl rfl rfl _ (y_loadA 7 rfl rfl rfl Tryz.underlying87 rfl sz87) ?_
        refine S_ 33 rfl rfl rfl _ (y_indexAddr rfl rfl rfl Tryz.underlying85 sz87 (fun hg => hA0 (by omega)) (fun _ => by omega)) ?_
        refine S_storeEl 0 rfl rfl rfl rfl rfl rfl sz87 rfl rfl rfl ?_ (xs' := (M.set k x).flatMap SSes.enc) ?_ ?_
        · omega
        · exact flat_setE (enc := SSes.enc) (size := 5) (fun _ => rfl) (by omega)
        refine S_go (fun _ _ h => h) ?_
        refine T_region ?_
        refine S_ 34 rfl rfl rfl _ (y_move rfl rfl) ?_
        refine S_ 35 rfl rfl rfl _ (y_bin rfl rfl rfl (fun hg => b_addv (((k + 1 : Nat) : Int)) (by omega) (by omega))) ?_
        refine S_ 5 rfl rfl rfl _ (y_assign rfl rfl) ?_
        refine S_go (fun _ _ h => h) ?_
        refine T_region ?_
        refine S_ 20 rfl rfl rfl _ (y_move rfl rfl) ?_
        refine S_ 21 rfl rfl rfl _ (y_bin rfl rfl rfl (fun hg => b_addv (((j + 1 : Nat) : Int)) (by omega) (by omega))) ?_
        refine S_ 6 rfl rfl rfl _ (y_assign rfl rfl) ?_
        refine S_nil (nextK3 (kf := [(5, 7), (16, 35)]) (kl := [(0, 0), (5, 7), (16, 35)]) (j + 1) (k + 1) (M.set k x) (by repeat (first | exact kf_nil | (apply kf_in; focus rfl) | (apply kf_out; focus rfl))) (by repeat (first | exact kl_nil | exact kl_rest (by assumption) rfl | (apply kl_in; focus rfl) | (apply kl_out; focus rfl))) ?_ ?_ ?_ ?_)
        · omega
        · exact ⟨by rw [List.length_set]; exact hp1, hd1, hd2, by omega, by omega⟩
        · exact ⟨rfl, rfl, trivial⟩
        · exact ⟨rfl, trivial⟩
      · skip
        have h29 : p x = true := by simpa using h29
        obtain ⟨hd1, hd2⟩ := del_skipS hp2 hp3 hx1 h29
        refine T_skip_go (fun _ _ h => h) ?_
        refine T_region ?_
        refine S_ 20 rfl rfl rfl _ (y_move rfl rfl) ?_
        refine S_ 21 rfl rfl rfl _ (y_bin rfl rfl rfl (fun hg => b_addv (((j + 1 : Nat) : Int)) (by omega) (by omega))) ?_
        refine S_ 6 rfl rfl rfl _ (y_assign rfl rfl) ?_
        refine S_nil (nextK3 (kf := [(5, 7), (16, 35)]) (kl := [(0, 0), (5, 7), (16, 35)]) (j + 1) k M (by repeat (first | exact kf_nil | (apply kf_in; focus rfl) | (apply kf_out; focus rfl))) (by repeat (first | exact kl_nil | exact kl_rest (by assumption) rfl | (apply kl_in; focus rfl) | (apply kl_out; focus rfl))) ?_ ?_ ?_ ?_)
        · omega
        · exact ⟨hp1, hd1, hd2, by omega, by omega⟩
        · exact ⟨rfl, rfl, trivial⟩
        · exact ⟨rfl, trivial⟩
    · try simp only [decide_eq_true_eq, decide_eq_false_iff_not, Bool.or_eq_true, Bool.or_eq_false_iff, Bool.and_eq_true, Bool.and_eq_false_iff, Bool.not_eq_true', Bool.not_eq_false', Bool.not_eq_true, Bool.not_eq_false, Bool.not_true, Bool.not_false, Int.not_lt, Int.not_le, not_or, not_and, Classical.not_not] at h19
      have hfin : (l.filter (notS p)) = M.take k := by rw [hp2, List.take_of_length_le (by omega)]
      have hkl : (M.take k).length = k := by rw [List.length_take]; omega
      refine T_exit_go (fun _ _ h => h) ?_
      refine T_seq ?_
      refine T_region ?_
      refine S_ 36 rfl rfl rfl _ (y_move rfl rfl) ?_
      refine S_ 37 rfl rfl rfl _ (y_move rfl rfl) ?_
      refine S_ 38 rfl rfl rfl _ (y_slice (lo := k) (hi := q) rfl rfl Tryz.underlying85 sz87 (.inr ⟨_, _, rfl, rfl⟩) (.inl ⟨rfl, rfl⟩) (by omega) (Nat.le_refl _) hcap) ?_
      refine S_clearTail 0 (k) rfl rfl rfl rfl rfl ?_ Tryz.underlying85 z87 rfl rfl ?_
      · omega
      refine S_go (fun _ _ h => h) ?_
      refine T_seq ?_
      refine T_region ?_
      refine S_ 39 rfl rfl rfl _ (y_move rfl rfl) ?_
      refine S_ 40 rfl rfl rfl _ (y_move rfl rfl) ?_
      refine S_ 41 rfl rfl rfl _ (y_as (v' := .slice A k c) (by rw [slice0, Nat.sub_zero, Nat.sub_zero]) (y_slice (lo := 0) (hi := k) rfl rfl Tryz.underlying85 sz87 (.inl ⟨rfl, rfl⟩) (.inr ⟨_, _, rfl, rfl⟩) (by omega) (by omega) hcap)) ?_
      refine S_ 4 rfl rfl rfl _ (y_assign rfl rfl) ?_
      refine S_go (fun _ _ h => h) ?_
      refine T_ret (fun a w hF hM => hRb a w (post1 rfl rfl (fun w hM => ?_) a w hF hM))
      exact ⟨k, rfl, by rw [hfin, hkl], hM.keep (ks := [(0, 999)]) (by repeat (first | exact kl_rest (by assumption) rfl | (apply kl_in; focus rfl))) _ ⟨by rw [hfin, ← flat_takeS (enc := SSes.enc) (size := 5) (fun _ => rfl)]; rfl, rfl, rfl, trivial⟩⟩
def PHea.eqB (a b : PHea) : Bool := decide (a.rel = b.rel) && decide (a.all = b.all) && decide (a.er = b.er) && decide (a.cr = b.cr) && decide (a.lo = b.lo) && decide (a.ppl = b.ppl) && decide (a.fr = b.fr) && decide (a.fp = b.fp) && decide (a.sh = b.sh)
theorem PHea.eqB_refl (a : PHea) : PHea.eqB a a = true := by simp [PHea.eqB]
theorem EqualHe_any (A B : Option Addr) (q c p d : Nat) (l m : List PHea) (w : World) (hl : SlT PHea.enc 9 w A q l) (hm : SlT PHea.enc 9 w B p m) (hq : q ≤ 4611686018427387904) (hp : p ≤ 4611686018427387904) :
    Calls Tryz.prog 141 #[.slice A q c, .slice B p d] w fun e w' => e = .returned (.bool (eqLB PHea.eqB l m)) ∧ Below w.heap.size w w' := by
  have hlen := hl.len
  have hmen := hm.len
  refine enter_args (args := [.slice A q c, .slice B p d]) (F := _) Tryz.func141 rfl Tryz.ntmps141 rfl rfl ?_
  intro Rb hRb hRn
  refine T_seq ?_
  refine T_region ?_
  refine S_ 4 rfl rfl rfl _ (y_assign rfl rfl) ?_
  refine S_go (fun _ _ h => h) ?_
  refine T_seq ?_
  refine T_seq ?_
  refine T_region ?_
  refine S_ 6 rfl rfl rfl _ (y_move rfl rfl) ?_
  refine S_ 7 rfl rfl rfl _ (y_len_slice rfl rfl Tryz.underlying89) ?_
  refine S_ 8 rfl rfl rfl _ (y_move rfl rfl) ?_
  refine S_ 9 rfl rfl rfl _ (y_len_slice rfl rfl Tryz.underlying89) ?_
  refine S_ 10 rfl rfl rfl _ (y_bin rfl rfl rfl (fun _ => b_neq)) ?_
  refine S_go (fun _ _ h => h) ?_
  refine T_cond rfl (fun h10 => ?_) (fun h10 => ?_)
  · try simp only [decide_eq_true_eq, decide_eq_false_iff_not, Bool.or_eq_true, Bool.or_eq_false_iff, Bool.and_eq_true, Bool.and_eq_false_iff, Bool.not_eq_true', Bool.not_eq_false', Bool.not_eq_true, Bool.not_eq_false, Bool.not_true, Bool.not_false, Int.not_lt, Int.not_le, not_or, not_and, Classical.not_not] at h10
    refine T_seq ?_
    refine T_region ?_
    refine S_ 4 rfl rfl rfl _ (y_assign rfl rfl) ?_
    refine S_go (fun _ _ h => h) ?_
    refine T_ret (fun a w hF hM => hRb a w (post1 rfl rfl (fun w hM => ?_) a w hF hM))
    exact ⟨by rw [eqLB_len l m (by omega)], hM.below⟩
  · try simp only [decide_eq_true_eq, decide_eq_false_iff_not, Bool.or_eq_true, Bool.or_eq_false_iff, Bool.and_eq_true, Bool.and_eq_false_iff, Bool.not_eq_true', Bool.not_eq_false', Bool.not_eq_true, Bool.not_eq_false, Bool.not_true, Bool.not_false, Int.not_lt, Int.not_le, not_or, not_and, Classical.not_not] at h10
    refine T_skip_go (fun _ _ h => h) ?_
    refine T_seq ?_
    refine T_seq ?_
    refine T_region ?_
    refine S_ 11 rfl rfl rfl _ (y_move rfl rfl) ?_
    refine S_ 12 rfl rfl rfl _ (y_len_slice rfl rfl Tryz.underlying89) ?_
    refine S_ 13 rfl rfl rfl _ (y_move rfl rfl) ?_
    refine S_go (fun _ _ h => h) ?_
    refine T_block ?_
    refine T_loopK1 (kf := [(4, 5), (13, 25)]) (kl := [(4, 5), (13, 25)]) (fun (i : Nat) => [(13, true, .int .i64 (i : Int))]) (fun (i : Nat) => []) (fun (i : Nat) => i ≤ q ∧ eqLB PHea.eqB l m = eqLB PHea.eqB (l.drop i) (m.drop i)) (fun (i : Nat) => q - i) 0 (by repeat (first | exact kf_nil | (apply kf_in; focus rfl) | (apply kf_out; focus rfl))) (by repeat (first | exact kl_nil | exact kl_rest (by assumption) rfl | (apply kl_in; focus rfl) | (apply kl_out; focus rfl))) ?_ ?_ ?_ ?_
    · exact ⟨by omega, rfl⟩
    · exact ⟨rfl, trivial⟩
    · exact trivial
    rintro i ⟨hp1, hp2⟩
    refine T_seq ?_
    refine T_region ?_
    refine S_ 14 rfl rfl rfl _ (y_bin rfl rfl rfl (fun _ => b_lss)) ?_
    refine S_go (fun _ _ h => h) ?_
    refine T_seq ?_
    refine T_cond rfl (fun h14 => ?_) (fun h14 => ?_)
    · try simp only [decide_eq_true_eq, decide_eq_false_iff_not, Bool.or_eq_true, Bool.or_eq_false_iff, Bool.and_eq_true, Bool.and_eq_false_iff, Bool.not_eq_true', Bool.not_eq_false', Bool.not_eq_true, Bool.not_eq_false, Bool.not_true, Bool.not_false, Int.not_lt, Int.not_le, not_or, not_and, Classical.not_not] at h14
      obtain ⟨a, hx1, hx2⟩ := hl.at (i := i) (by omega)
      obtain ⟨b, hy1, hy2⟩ := hm.at (i := i) (by omega)
      refine T_skip_go (fun _ _ h => h) ?_
      refine T_seq ?_
      refine T_block ?_
      refine T_seq ?_
      refine T_region ?_
      refine S_ 15 rfl rfl rfl _ (y_move rfl rfl) ?_
      refine S_ 5 rfl rfl rfl _ (y_assign rfl rfl) ?_
      refine S_go (fun _ _ h => h) ?_
      refine T_seq ?_
      refine T_draws (by kernel_rfl) (by kernel_rfl) ?_
      refine D_ 16 rfl rfl rfl _ (y_move rfl rfl) ?_
      refine D_ 17 rfl rfl rfl _ (y_move rfl rfl) ?_
      refine D_ 18 rfl rfl rfl _ (y_indexAddr rfl rfl rfl Tryz.underlying89 sz96 (fun hg => hl.isSome (by omega)) (fun _ => by omega)) ?_
      refine D_ 19 rfl rfl rfl _ (y_loadT rfl rfl hl (fun _ => rfl) (fun _ => hx1) Tryz.underlying96 rfl sz96) ?_
      refine D_ 20 rfl rfl rfl _ (y_move rfl rfl) ?_
      refine D_ 21 rfl rfl rfl _ (y_move rfl rfl) ?_
      refine D_ 22 rfl rfl rfl _ (y_indexAddr rfl rfl rfl Tryz.underlying89 sz96 (fun hg => hm.isSome (by omega)) (fun _ => by omega)) ?_
      refine D_ 23 rfl rfl rfl _ (y_loadT rfl rfl hm (fun _ => rfl) (fun _ => hy1) Tryz.underlying96 rfl sz96) ?_
      refine D_ 24 rfl rfl rfl _ (y_as (v' := .bool (!(PHea.eqB a b))) (by simp [PHea.eqB, str, Bool.or_assoc]) (y_bin rfl rfl rfl (fun _ => b_neqA (rs := [_, _, _, _, _, _, _, _, _]) Tryz.underlying96 (by kernel_rfl) (by kernel_rfl) ⟨by decide, ⟨_, Tryz.underlying9, rfl, _, _, rfl, rfl, rfl⟩, by decide, ⟨_, Tryz.underlying3, rfl, _, _, rfl, rfl, rfl⟩, by decide, ⟨_, Tryz.underlying3, rfl, _, _, rfl, rfl, rfl⟩, by decide, ⟨_, Tryz.underlying3, rfl, _, _, rfl, rfl, rfl⟩, by decide, ⟨_, Tryz.underlying3, rfl, _, _, rfl, rfl, rfl⟩, by decide, ⟨_, Tryz.underlying3, rfl, _, _, rfl, rfl, rfl⟩, by decide, ⟨_, Tryz.underlying3, rfl, _, _, rfl, rfl, rfl⟩, by decide, ⟨_, Tryz.underlying3, rfl, _, _, rfl, rfl, rfl⟩, by decide, ⟨_, Tryz.underlying3, rfl, _, _, rfl, rfl, rfl⟩, trivial⟩))) ?_
      refine D_go (fun _ _ h => h) ?_
      refine T_cond rfl (fun h24 => ?_) (fun h24 => ?_)
      · skip
        have h24e : PHea.eqB a b = false := by simpa using h24
        refine T_seq ?_
        refine T_region ?_
        refine S_ 4 rfl rfl rfl _ (y_assign rfl rfl) ?_
        refine S_go (fun _ _ h => h) ?_
        refine T_ret (fun a w hF hM => hRb a w (post1 rfl rfl (fun w hM => ?_) a w hF hM))
        exact ⟨by rw [hp2, hx2, hy2, eqLB, h24e, Bool.false_and], hM.below⟩
      · skip
        have h24e : PHea.eqB a b = true := by simpa using h24
        refine T_skip_go (fun _ _ h => h) ?_
        refine T_region ?_
        refine S_ 25 rfl rfl rfl _ (y_bin rfl rfl rfl (fun hg => b_add (by omega))) ?_
        refine S_ 13 rfl rfl rfl _ (y_move rfl rfl) ?_
        refine S_nil (nextK1 (kf := [(4, 5), (13, 25)]) (kl := [(4, 5), (13, 25)]) (i + 1) (by repeat (first | exact kf_nil | (apply kf_in; focus rfl) | (apply kf_out; focus rfl))) (by repeat (first | exact kl_nil | exact kl_rest (by assumption) rfl | (apply kl_in; focus rfl) | (apply kl_out; focus rfl))) ?_ ?_ ?_ ?_)
        · omega
        · exact ⟨by omega, by rw [hp2, hx2, hy2, eqLB, h24e, Bool.true_and]⟩
        · exact ⟨rfl, trivial⟩
        · exact trivial
    · try simp only [decide_eq_true_eq, decide_eq_false_iff_not, Bool.or_eq_true, Bool.or_eq_false_iff, Bool.and_eq_true, Bool.and_eq_false_iff, Bool.not_eq_true', Bool.not_eq_false', Bool.not_eq_true, Bool.not_eq_false, Bool.not_true, Bool.not_false, Int.not_lt, Int.not_le, not_or, not_and, Classical.not_not] at h14
      refine T_exit_go (fun _ _ h => h) ?_
      refine T_seq ?_
      refine T_region ?_
      refine S_ 4 rfl rfl rfl _ (y_assign rfl rfl) ?_
      refine S_go (fun _ _ h => h) ?_
      refine T_ret (fun a w hF hM => hRb a w (post1 rfl rfl (fun w hM => ?_) a w hF hM))
      exact ⟨by rw [hp2, hl.end (by omega), hm.end (by omega)]; rfl, hM.below⟩
theorem nilHe {w : World} : SlT PHea.enc 9 w none 0 [] := ⟨⟨by simp, fun h => by simp at h⟩, rfl⟩
theorem listedHe_any (A B : Option Addr) (q c p d : Nat) (l m : List PHea) (e x : Int) (w : World) (hl : SlT PHea.enc 9 w A q l) (hm : SlT PHea.enc 9 w B p m) (hq : q ≤ 4611686018427387904) (hp : p ≤ 4611686018427387904) (he : e = x) (hz : x ≠ 0 → l = []) (h0 : x = 0 → m = l) :
    Calls Tryz.prog 55 #[.slice A q c, .int .i64 e, .slice B p d, .int .i64 x] w fun e w' => e = .returned (.bool true) ∧ Below w.heap.size w w' := by
  subst he
  refine enter_args (args := [.slice A q c, .int .i64 e, .slice B p d, .int .i64 e]) (F := _) Tryz.func55 rfl Tryz.ntmps55 rfl rfl ?_
  intro Rb hRb hRn
  refine T_seq ?_
  refine T_region ?_
  refine S_ 8 rfl rfl rfl _ (y_assign rfl rfl) ?_
  refine S_go (fun _ _ h => h) ?_
  refine T_seq ?_
  refine T_seq ?_
  refine T_region ?_
  refine S_ 9 rfl rfl rfl _ (y_move rfl rfl) ?_
  refine S_ 10 rfl rfl rfl _ (y_bin rfl rfl rfl (fun _ => b_neq)) ?_
  refine S_go (fun _ _ h => h) ?_
  refine T_cond rfl (fun h10 => ?_) (fun h10 => ?_)
  · try simp only [decide_eq_true_eq, decide_eq_false_iff_not, Bool.or_eq_true, Bool.or_eq_false_iff, Bool.and_eq_true, Bool.and_eq_false_iff, Bool.not_eq_true', Bool.not_eq_false', Bool.not_eq_true, Bool.not_eq_false, Bool.not_true, Bool.not_false, Int.not_lt, Int.not_le, not_or, not_and, Classical.not_not] at h10
    refine T_region ?_
    refine S_nilSlice 2 (e := 96) (size := 9) ?_
    refine S_ 2 rfl rfl rfl _ (y_assign rfl rfl) ?_
    refine S_go (fun _ _ h => h) ?_
    refine T_seq ?_
    refine T_region ?_
    refine S_ 11 rfl rfl rfl _ (y_move rfl rfl) ?_
    refine S_ 12 rfl rfl rfl _ (y_move rfl rfl) ?_
    refine S_ 13 rfl rfl rfl _ (y_call rfl rfl rfl cf141 (fun _ w hM => EqualHe_any _ _ _ _ _ _ l [] w (hl.below hM.below) nilHe hq (by omega))) ?_
    refine S_ 14 rfl rfl rfl _ (y_move rfl rfl) ?_
    refine Sg_ 15 rfl rfl rfl rfl rfl rfl _ (y_move rfl rfl) ?_
    refine Sg_ 16 rfl rfl rfl rfl rfl rfl _ (y_move rfl rfl) ?_
    refine Sg_ 17 rfl rfl rfl rfl rfl rfl _ (y_bin rfl rfl rfl (fun _ => b_eql)) ?_
    refine S_ 18 rfl rfl rfl _ (y_and rfl rfl rfl) ?_
    refine S_ 8 rfl rfl rfl _ (y_assign rfl rfl) ?_
    refine S_go (fun _ _ h => h) ?_
    refine T_ret (fun a w hF hM => hRb a w (post1 rfl rfl (fun w hM => ?_) a w hF hM))
    exact ⟨by rw [hz h10]; simp [eqLB], hM.below⟩
  · try simp only [decide_eq_true_eq, decide_eq_false_iff_not, Bool.or_eq_true, Bool.or_eq_false_iff, Bool.and_eq_true, Bool.and_eq_false_iff, Bool.not_eq_true', Bool.not_eq_false', Bool.not_eq_true, Bool.not_eq_false, Bool.not_true, Bool.not_false, Int.not_lt, Int.not_le, not_or, not_and, Classical.not_not] at h10
    refine T_skip_go (fun _ _ h => h) ?_
    refine T_seq ?_
    refine T_region ?_
    refine S_ 11 rfl rfl rfl _ (y_move rfl rfl) ?_
    refine S_ 12 rfl rfl rfl _ (y_move rfl rfl) ?_
    refine S_ 13 rfl rfl rfl _ (y_call rfl rfl rfl cf141 (fun _ w hM => EqualHe_any _ _ _ _ _ _ l m w (hl.below hM.below) (hm.below hM.below) hq hp)) ?_
    refine S_ 14 rfl rfl rfl _ (y_move rfl rfl) ?_
    refine Sg_ 15 rfl rfl rfl rfl rfl rfl _ (y_move rfl rfl) ?_
    refine Sg_ 16 rfl rfl rfl rfl rfl rfl _ (y_move rfl rfl) ?_
    refine Sg_ 17 rfl rfl rfl rfl rfl rfl _ (y_bin rfl rfl rfl (fun _ => b_eql)) ?_
    refine S_ 18 rfl rfl rfl _ (y_and rfl rfl rfl) ?_
    refine S_ 8 rfl rfl rfl _ (y_assign rfl rfl) ?_
    refine S_go (fun _ _ h => h) ?_
    refine T_ret (fun a w hF hM => hRb a w (post1 rfl rfl (fun w hM => ?_) a w hF hM))
    exact ⟨by rw [h0 h10, eqL_refl PHea.eqB_refl]; simp, hM.below⟩
/-! ### HealthOf -/
theorem hea_parts {l : Sl SSes} {fr tl : Int} (h : heaNo l fr tl = 0) : l.q ≤ 2000 ∧ sesNos l.l = 0 := by
  unfold heaNo at h
  split at h
  · cases h
  · split at h
    · exact absurd h ‹_›
    · exact ⟨by omega, Decidable.not_not.1 ‹_›⟩

def outR2 (fr tl : Int) (s : SSes) : Bool := decide (s.at_ < fr) || decide (tl < s.at_)
theorem out_in (fr tl : Int) (l : List SSes) : l.filter (notS (outR2 fr tl)) = picked l fr tl := by
  unfold picked
  congr 1
  funext s
  rw [notS, outR2, inR, Bool.not_or, ← decide_not, ← decide_not]
  congr 1 <;> exact decide_eq_decide.2 (by omega)
theorem HealthOf1_any (x0 : SSes) (fr tl : Int) (b1 b2 : Nat) (w : World) (h1 : CellsAt w b1 [.int .i64 fr]) (h2 : CellsAt w b2 [.int .i64 tl]) :
    Calls Tryz.prog 140 #[.agg x0.enc.toArray, .pointer (some ⟨b1, 0, none⟩), .pointer (some ⟨b2, 0, none⟩)] w fun e w' => e = .returned (.bool (outR2 fr tl x0)) ∧ Below w.heap.size w w' := by
  refine enter_args (args := [.agg #[.int .i64 x0.at_, .int .i64 x0.long, str x0.rel, .int .i64 x0.out, str x0.us], .pointer (some ⟨b1, 0, none⟩), .pointer (some ⟨b2, 0, none⟩)]) (F := _) Tryz.func140 rfl Tryz.ntmps140 rfl rfl ?_
  intro Rb hRb hRn
  refine T_seq ?_
  refine T_region ?_
  refine S_box 3 3 rfl rfl rfl rfl rfl ?_
  intro b3
  refine S_ 4 rfl rfl rfl _ (y_assign rfl rfl) ?_
  refine S_go (fun _ _ h => h) ?_
  refine T_seq ?_
  refine T_region ?_
  refine S_ 5 rfl rfl rfl _ (y_fieldAddr rfl rfl fa87_0) ?_
  refine S_ 6 rfl rfl rfl _ (y_load 3 rfl rfl rfl rfl Tryz.underlying3 rfl) ?_
  refine S_ 7 rfl rfl rfl _ (y_load_far rfl rfl (show w.cell? ⟨b1, 0, none⟩ = some (.int .i64 fr) from h1.1 0 _ rfl) h1.2 Tryz.underlying3 rfl) ?_
  refine S_ 8 rfl rfl rfl _ (y_bin rfl rfl rfl (fun _ => b_lss)) ?_
  refine S_ 9 rfl rfl rfl _ (y_move rfl rfl) ?_
  refine Sg_ 10 rfl rfl rfl rfl rfl rfl _ (y_fieldAddr rfl rfl fa87_0) ?_
  refine Sg_ 11 rfl rfl rfl rfl rfl rfl _ (y_load 3 rfl rfl rfl rfl Tryz.underlying3 rfl) ?_
  refine Sg_ 12 rfl rfl rfl rfl rfl rfl _ (y_load_far rfl rfl (show w.cell? ⟨b2, 0, none⟩ = some (.int .i64 tl) from h2.1 0 _ rfl) h2.2 Tryz.underlying3 rfl) ?_
  refine Sg_ 13 rfl rfl rfl rfl rfl rfl _ (y_bin rfl rfl rfl (fun _ => b_gtr)) ?_
  refine S_ 14 rfl rfl rfl _ (y_or rfl rfl rfl) ?_
  refine S_ 4 rfl rfl rfl _ (y_assign rfl rfl) ?_
  refine S_go (fun _ _ h => h) ?_
  refine T_ret (fun a w hF hM => hRb a w (post1 rfl rfl (fun w hM => ?_) a w hF hM))
  exact ⟨rfl, hM.below⟩
theorem delOf {w0 : World} {K : HL} (hK : FromK K) (A : Option Addr) (c : Nat) (l : Sl SSes) (fr tl : Int) (b4 b5 : Nat) (hlen : l.l.length = l.q) (hq : l.q ≤ 2000) (w : World)
    (hM : Mem w0 ([(0, .own 87 5 (.slice A l.q c) l.q (l.l.flatMap SSes.enc)), (1, .blk b4 (IsBox [.int .i64 fr] 3)), (2, .blk b5 (IsBox [.int .i64 tl] 3))] ++ K) w) :
    Calls Tryz.prog 138 #[.slice A l.q c, .func (.func 140) #[] #[.pointer (some ⟨b4, 0, none⟩), .pointer (some ⟨b5, 0, none⟩)]] w fun e w' => ∃ z : Nat, e = .returned (.slice A z c) ∧ z = (l.l.filter (notS (outR2 fr tl))).length ∧ Mem w0 ([(0, .own 87 5 (.slice A z c) z ((l.l.filter (notS (outR2 fr tl))).flatMap SSes.enc)), (1, .blk b4 (IsBox [.int .i64 fr] 3)), (2, .blk b5 (IsBox [.int .i64 tl] 3))] ++ K) w' :=
  DeleteSes_any (w0 := w0) (K := K) hK (.blk b4 (IsBox [.int .i64 fr] 3)) (.blk b5 (IsBox [.int .i64 tl] 3)) A l.q c l.l 140 #[.pointer (some ⟨b4, 0, none⟩), .pointer (some ⟨b5, 0, none⟩)] (outR2 fr tl) hlen (by omega) cf140 (fun u w2 hM2 => HealthOf1_any u fr tl b4 b5 w2 (Mem.box_cells (b := b4) (cs := [.int .i64 fr]) (tb := 3) hM2 1 rfl) (Mem.box_cells (b := b5) (cs := [.int .i64 tl]) (tb := 3) hM2 2 rfl)) w hM
theorem drop_atH {α : Type} {l : List α} {i : Nat} {x : α} (h : l[i]? = some x) : l.drop i = x :: l.drop (i + 1) := by
  obtain ⟨h1, rfl⟩ := List.getElem?_eq_some_iff.1 h
  exact List.drop_eq_getElem_cons h1
def ofN (D : List SSes) (y : List UInt8) : List SSes := D.filter fun s => decide (s.rel = y)
theorem of_t {D : List SSes} {y : List UInt8} {m : Nat} {x : SSes} (h : D[m]? = some x) (hr : x.rel = y) : ofN (D.drop m) y = x :: ofN (D.drop (m + 1)) y := by
  rw [drop_atH h, ofN, List.filter_cons, if_pos (by simpa using hr)]; rfl
theorem of_f {D : List SSes} {y : List UInt8} {m : Nat} {x : SSes} (h : D[m]? = some x) (hr : ¬ x.rel = y) : ofN (D.drop m) y = ofN (D.drop (m + 1)) y := by
  rw [drop_atH h, ofN, List.filter_cons, if_neg (by simpa using hr)]; rfl
set_option maxHeartbeats 1600000 in
theorem HealthOf_any (l : Sl SSes) (fr tl : Int) (w : World) (hl : SesOk w l) (hno : heaNo l fr tl = 0) :
    Calls Tryz.prog 54 #[.slice l.A l.q l.c, .int .i64 fr, .int .i64 tl] w fun e w' => ∃ A' c', e = .returned (.slice A' (heaL (picked l.l fr tl)).length c') ∧ w'.ownsRow w.heap.size 96 9 (.slice A' (heaL (picked l.l fr tl)).length c') (heaL (picked l.l fr tl)).length ((heaL (picked l.l fr tl)).flatMap PHea.enc) ∧ Below w.heap.size w w' := by
  have ht := hl.ok.t
  have hlen := ht.len
  obtain ⟨hq, hz⟩ := hea_parts hno
  have hDf := out_in fr tl l.l
  have hDl : (picked l.l fr tl).length ≤ 2000 := by
    have := List.length_filter_le (inR fr tl) l.l
    unfold picked
    omega
  have hDr : ∀ x ∈ (picked l.l fr tl).map SSes.rel, relOk x = true := fun x hx => by
    obtain ⟨t, ht1, rfl⟩ := List.mem_map.1 hx
    exact ses_rel (ses_all _ hz t (List.mem_filter.1 ht1).1)
  have hNa : allNo ((picked l.l fr tl).map SSes.rel) = 0 := all_good (by rw [List.length_map]; omega) hDr
  generalize hD : picked l.l fr tl = D at hDf hDl hDr hNa
  have hsr : srtR (D.map SSes.rel) = cptF [] (srtL (D.map SSes.rel)) := if_pos hNa
  have hsl := srtR_len (D.map SSes.rel)
  rw [List.length_map, hsr] at hsl
  have hsm := (srtR_good hNa).2
  refine enter_args (args := [.slice l.A l.q l.c, .int .i64 fr, .int .i64 tl]) (F := _) Tryz.func54 rfl Tryz.ntmps54 rfl rfl ?_
  intro Rb hRb hRn
  refine T_seq ?_
  refine T_region ?_
  refine S_box 4 4 rfl rfl rfl rfl rfl ?_
  intro b4
  refine S_box 5 5 rfl rfl rfl rfl rfl ?_
  intro b5
  refine S_nilSlice 6 (e := 96) (size := 9) ?_
  refine S_ 6 rfl rfl rfl _ (y_assign rfl rfl) ?_
  refine S_go (fun _ _ h => h) ?_
  refine T_seq ?_
  refine T_region ?_
  refine S_ 20 rfl rfl rfl _ (y_move rfl rfl) ?_
  refine S_callOwn 21 21 rfl rfl rfl rfl rfl rfl rfl cf139 (fun A c => .slice A l.q c) 87 5 (l.q) (l.l.flatMap SSes.enc) (fun w hM => CloneSes_any l w (hl.ok.below hM.below) (by omega)) ?_
  intro A21 c21
  refine S_ 22 rfl rfl rfl _ (y_makeFunc rfl rfl rfl rfl rfl) ?_
  refine S_callM 23 [(0, 21), (1, 4), (2, 5)] (X := Nat) rfl rfl rfl rfl rfl rfl rfl cf138 rfl (fun z => .slice A21 z c21) (fun z => z = D.length) (fun z => [(0, .own 87 5 (.slice A21 z c21) z (D.flatMap SSes.enc)), (1, .blk b4 (IsBox [.int .i64 fr] 3)), (2, .blk b5 (IsBox [.int .i64 tl] 3))]) (fun _ => rfl) (fun _ => rfl) (fun K1 hK1 w1 hM => by
    rw [← hDf]
    exact delOf (w0 := w) hK1 A21 c21 l fr tl b4 b5 hlen hq w1 hM) ?_
  rintro _ rfl
  refine S_ 0 rfl rfl rfl _ (y_assign rfl rfl) ?_
  refine S_go (fun _ _ h => h) ?_
  refine T_seq ?_
  refine T_region ?_
  refine S_nilSlice 7 (e := 9) (size := 1) ?_
  refine S_ 7 rfl rfl rfl _ (y_assign rfl rfl) ?_
  refine S_go (fun _ _ h => h) ?_
  refine T_seq ?_
  refine T_seq ?_
  refine T_region ?_
  refine S_ 24 rfl rfl rfl _ (y_move rfl rfl) ?_
  refine S_ 25 rfl rfl rfl _ (y_len_slice rfl rfl Tryz.underlying85) ?_
  refine S_ 26 rfl rfl rfl _ (y_move rfl rfl) ?_
  refine S_go (fun _ _ h => h) ?_
  refine T_block ?_
  refine T_loopK4 (kf := [(7, 7), (9, 9), (26, 35)]) (kl := [(7, 7), (9, 9), (26, 35)]) (fun (i : Nat) (N : List (List UInt8)) (A7 : Option Addr) (c7 : Nat) => [(26, true, .int .i64 (i : Int)), (7, true, .slice A7 N.length c7)]) (fun (i : Nat) (N : List (List UInt8)) (A7 : Option Addr) (c7 : Nat) => [(7, .own 9 1 (.slice A7 N.length c7) N.length (N.flatMap strE))]) (fun (i : Nat) (N : List (List UInt8)) (A7 : Option Addr) (c7 : Nat) => i ≤ D.length ∧ N = (D.take i).map SSes.rel ∧ N.length ≤ i) (fun (i : Nat) (N : List (List UInt8)) (A7 : Option Addr) (c7 : Nat) => D.length - i) 0 [] none 0 (by repeat (first | exact kf_nil | (apply kf_in; focus rfl) | (apply kf_out; focus rfl))) (by repeat (first | exact kl_nil | exact kl_rest (by assumption) rfl | (apply kl_in; focus rfl) | (apply kl_out; focus rfl))) ?_ ?_ ?_ ?_
  · exact ⟨by omega, rfl, Nat.le_refl _⟩
  · exact ⟨rfl, rfl, trivial⟩
  · exact ⟨rfl, trivial⟩
  rintro i N A7 c7 ⟨hp1, hp2, hp3⟩
  refine T_seq ?_
  refine T_region ?_
  refine S_ 27 rfl rfl rfl _ (y_bin rfl rfl rfl (fun _ => b_lss)) ?_
  refine S_go (fun _ _ h => h) ?_
  refine T_seq ?_
  refine T_cond rfl (fun h27 => ?_) (fun h27 => ?_)
  · try simp only [decide_eq_true_eq, decide_eq_false_iff_not, Bool.or_eq_true, Bool.or_eq_false_iff, Bool.and_eq_true, Bool.and_eq_false_iff, Bool.not_eq_true', Bool.not_eq_false', Bool.not_eq_true, Bool.not_eq_false, Bool.not_true, Bool.not_false, Int.not_lt, Int.not_le, not_or, not_and, Classical.not_not] at h27
    obtain ⟨x0, hd1⟩ : ∃ x, D[i]? = some x := ⟨_, List.getElem?_eq_getElem (by omega)⟩
    refine T_skip_go (fun _ _ h => h) ?_
    refine T_seq ?_
    refine T_block ?_
    refine T_seq ?_
    refine T_region ?_
    refine S_ 28 rfl rfl rfl _ (y_indexOwn 21 rfl rfl rfl rfl Tryz.underlying85 sz87 (fun _ => by omega)) ?_
    refine S_ 29 rfl rfl rfl _ (y_loadO 21 rfl rfl rfl rfl (fun _ => rfl) (fun _ => hd1) Tryz.underlying87 rfl sz87) ?_
    refine S_alloc 9 9 rfl rfl rfl rfl z87 ?_
    intro b9
    refine S_store 9 rfl rfl rfl rfl rfl rfl sz87 rfl rfl ?_
    refine S_go (fun _ _ h => h) ?_
    refine T_region ?_
    refine S_ 30 rfl rfl rfl _ (y_move rfl rfl) ?_
    refine S_ 31 rfl rfl rfl _ (y_fieldAddr rfl rfl fa87_2) ?_
    refine S_ 32 rfl rfl rfl _ (y_load 9 rfl rfl rfl rfl Tryz.underlying9 rfl) ?_
    refine S_buildSlice 33 33 rfl rfl rfl rfl rfl Tryz.underlying40 inf9 rfl (by decide) (by decide) rfl rfl (by decide) rfl (_) rfl ?_
    intro b33
    obtain ⟨i34, hi34, hz34, hs34, hy34⟩ := info_parts inf9
    refine S_append 34 7 33 rfl rfl rfl rfl rfl rfl rfl rfl Tryz.underlying40 hi34 hz34 hs34 hy34 rfl (by decide) (by decide) rfl ?_ ?_ ((N ++ [x0.rel]).length) ((N ++ [x0.rel]).flatMap strE) ?_ ?_ ?_
    · (simp only [maxLen]; omega)
    · omega
    · simp
    · simp [List.flatMap_append]; rfl
    intro A34 c34
    refine S_ 7 rfl rfl rfl _ (y_assign rfl rfl) ?_
    refine S_go (fun _ _ h => h) ?_
    refine T_region ?_
    refine S_ 35 rfl rfl rfl _ (y_bin rfl rfl rfl (fun hg => b_add (by omega))) ?_
    refine S_ 26 rfl rfl rfl _ (y_move rfl rfl) ?_
    refine S_nil (nextK4 (kf := [(7, 7), (9, 9), (26, 35)]) (kl := [(7, 7), (9, 9), (26, 35)]) (i + 1) (N ++ [x0.rel]) A34 c34 (by repeat (first | exact kf_nil | (apply kf_in; focus rfl) | (apply kf_out; focus rfl))) (by repeat (first | exact kl_nil | exact kl_rest (by assumption) rfl | (apply kl_in; focus rfl) | (apply kl_out; focus rfl))) ?_ ?_ ?_ ?_)
    · omega
    · exact ⟨by omega, by rw [takeS hd1, List.map_append, ← hp2]; rfl, by rw [List.length_append, List.length_singleton]; omega⟩
    · exact ⟨rfl, rfl, trivial⟩
    · exact ⟨rfl, trivial⟩
  · try simp only [decide_eq_true_eq, decide_eq_false_iff_not, Bool.or_eq_true, Bool.or_eq_false_iff, Bool.and_eq_true, Bool.and_eq_false_iff, Bool.not_eq_true', Bool.not_eq_false', Bool.not_eq_true, Bool.not_eq_false, Bool.not_true, Bool.not_false, Int.not_lt, Int.not_le, not_or, not_and, Classical.not_not] at h27
    have hN : N = D.map SSes.rel := by rw [hp2, List.take_of_length_le (by omega)]
    have hNl : N.length = D.length := by rw [hN, List.length_map]
    refine T_exit_go (fun _ _ h => h) ?_
    refine T_seq ?_
    refine T_region ?_
    refine S_nilSlice 10 (e := 96) (size := 9) ?_
    refine S_ 10 rfl rfl rfl _ (y_assign rfl rfl) ?_
    refine S_go (fun _ _ h => h) ?_
    refine T_seq ?_
    refine T_seq ?_
    refine T_region ?_
    refine S_ 36 rfl rfl rfl _ (y_move rfl rfl) ?_
    refine S_callOwn 37 37 rfl rfl rfl rfl rfl rfl rfl cf40 (fun A c => .slice A (cptF [] (srtL N)).length c) 9 1 ((cptF [] (srtL N)).length) ((cptF [] (srtL N)).flatMap strE) (fun w hM => SortedReleases_any A7 N.length c7 N w (owned_T (enc := strE) hM rfl (i := 7) rfl) (by omega)) ?_
    intro A37 c37
    refine S_ 38 rfl rfl rfl _ (y_len_slice rfl rfl Tryz.underlying40) ?_
    refine S_ 39 rfl rfl rfl _ (y_move rfl rfl) ?_
    refine S_go (fun _ _ h => h) ?_
    refine T_block ?_
    refine T_loopK4 (kf := [(10, 10), (12, 14), (16, 17), (19, 19), (39, 133)]) (kl := [(10, 10), (12, 14), (16, 17), (19, 19), (39, 133)]) (fun (j : Nat) (O : List PHea) (A10 : Option Addr) (c10 : Nat) => [(39, true, .int .i64 (j : Int)), (10, true, .slice A10 O.length c10)]) (fun (j : Nat) (O : List PHea) (A10 : Option Addr) (c10 : Nat) => [(10, .own 96 9 (.slice A10 O.length c10) O.length (O.flatMap PHea.enc))]) (fun (j : Nat) (O : List PHea) (A10 : Option Addr) (c10 : Nat) => j ≤ (cptF [] (srtL N)).length ∧ O = ((cptF [] (srtL N)).take j).map (fun y => heaR y (ofN D y) (D.length : Int)) ∧ O.length ≤ j ∧ (cptF [] (srtL N)).length ≤ 2000) (fun (j : Nat) (O : List PHea) (A10 : Option Addr) (c10 : Nat) => (cptF [] (srtL N)).length - j) 0 [] none 0 (by repeat (first | exact kf_nil | (apply kf_in; focus rfl) | (apply kf_out; focus rfl))) (by repeat (first | exact kl_nil | exact kl_rest (by assumption) rfl | (apply kl_in; focus rfl) | (apply kl_out; focus rfl))) ?_ ?_ ?_ ?_
    · exact ⟨by omega, rfl, Nat.le_refl _, by rw [hN]; omega⟩
    · exact ⟨rfl, rfl, trivial⟩
    · exact ⟨rfl, trivial⟩
    rintro j O A10 c10 ⟨ho1, ho2, ho3, ho4⟩
    refine T_seq ?_
    refine T_region ?_
    refine S_ 40 rfl rfl rfl _ (y_bin rfl rfl rfl (fun _ => b_lss)) ?_
    refine S_go (fun _ _ h => h) ?_
    refine T_seq ?_
    refine T_cond rfl (fun h40 => ?_) (fun h40 => ?_)
    · try simp only [decide_eq_true_eq, decide_eq_false_iff_not, Bool.or_eq_true, Bool.or_eq_false_iff, Bool.and_eq_true, Bool.and_eq_false_iff, Bool.not_eq_true', Bool.not_eq_false', Bool.not_eq_true, Bool.not_eq_false, Bool.not_true, Bool.not_false, Int.not_lt, Int.not_le, not_or, not_and, Classical.not_not] at h40
      have hjl : j < (cptF [] (srtL N)).length := by omega
      obtain ⟨y, hn1⟩ : ∃ y, (cptF [] (srtL N))[j]? = some y := ⟨_, List.getElem?_eq_getElem hjl⟩
      have hyD : y ∈ D.map SSes.rel := (hsm y).1 (by rw [hsr, ← hN]; exact List.mem_of_getElem? hn1)
      have hyG : 0 < (ofN D y).length := by
        obtain ⟨t, ht1, ht2⟩ := List.mem_map.1 hyD
        exact List.length_pos_iff.2 (List.ne_nil_of_mem (List.mem_filter.2 ⟨ht1, by simpa using ht2⟩))
      refine T_skip_go (fun _ _ h => h) ?_
      refine T_seq ?_
      refine T_block ?_
      refine T_seq ?_
      refine T_region ?_
      refine S_ 41 rfl rfl rfl _ (y_indexOwn 37 rfl rfl rfl rfl Tryz.underlying40 sz9 (fun _ => by omega)) ?_
      refine S_ 42 rfl rfl rfl _ (y_loadO1 37 (val := (fun l : List UInt8 => str l)) rfl rfl rfl rfl (fun _ => hn1) Tryz.underlying9 rfl) ?_
      refine S_ 12 rfl rfl rfl _ (y_assign rfl rfl) ?_
      refine S_go (fun _ _ h => h) ?_
      refine T_seq ?_
      refine T_region ?_
      refine S_ 43 rfl rfl rfl _ (y_move rfl rfl) ?_
      refine S_ 44 rfl rfl rfl _ (y_build (zv := .agg #[.string ⟨#[]⟩, .int .i64 0, .int .i64 0, .int .i64 0, .int .i64 0, .int .i64 0, .int .i64 0, .int .i64 0, .int .i64 0]) (pl := [(0, 1), (1, 1), (2, 1), (3, 1), (4, 1), (5, 1), (6, 1), (7, 1), (8, 1)]) (out := [_, .int .i64 0, .int .i64 0, .int .i64 0, .int .i64 0, .int .i64 0, .int .i64 0, .int .i64 0, .int .i64 0]) rfl rfl Tryz.underlying96 z96 (by kernel_rfl) rfl) ?_
      refine S_alloc 13 13 rfl rfl rfl rfl z96 ?_
      intro b13
      refine S_store 13 rfl rfl rfl rfl rfl rfl sz96 rfl rfl ?_
      refine S_go (fun _ _ h => h) ?_
      refine T_seq ?_
      refine T_region ?_
      refine S_makeMap 45 45 (fun l : List UInt8 => str l) rfl rfl rfl rfl ?_
      intro b45
      refine S_ 14 rfl rfl rfl _ (y_assign rfl rfl) ?_
      refine S_go (fun _ _ h => h) ?_
      refine T_seq ?_
      refine T_seq ?_
      refine T_region ?_
      refine S_ 46 rfl rfl rfl _ (y_move rfl rfl) ?_
      refine S_ 47 rfl rfl rfl _ (y_len_slice rfl rfl Tryz.underlying85) ?_
      refine S_ 48 rfl rfl rfl _ (y_move rfl rfl) ?_
      refine S_go (fun _ _ h => h) ?_
      refine T_block ?_
      refine T_loopK6 (kf := [(16, 16), (48, 92)]) (kl := [(13, 13), (16, 16), (45, 45), (48, 92)]) (fun (m : Nat) (M : List (List UInt8 × Bool)) (a e c o : Int) => [(48, true, .int .i64 (m : Int))]) (fun (m : Nat) (M : List (List UInt8 × Bool)) (a e c o : Int) => [(13, .blk b13 (IsBox [str y, .int .i64 a, .int .i64 e, .int .i64 c, .int .i64 o, .int .i64 0, .int .i64 0, .int .i64 0, .int .i64 0] 96)), (45, .blk b45 (IsMap (fun l : List UInt8 => str l) (M.map miB)))]) (fun (m : Nat) (M : List (List UInt8 × Bool)) (a e c o : Int) => m ≤ D.length ∧ crF M (ofN (D.drop m) y) = crF [] (ofN D y) ∧ e + cntO 2 (ofN (D.drop m) y) = cntO 2 (ofN D y) ∧ c + cntO 3 (ofN (D.drop m) y) = cntO 3 (ofN D y) ∧ o + cntO 4 (ofN (D.drop m) y) = cntO 4 (ofN D y) ∧ a + ((ofN (D.drop m) y).length : Int) = ((ofN D y).length : Int) ∧ (0 ≤ e ∧ e ≤ m) ∧ (0 ≤ c ∧ c ≤ a) ∧ (0 ≤ o ∧ o ≤ m) ∧ (0 ≤ a ∧ a ≤ m) ∧ (0 < a → 0 < M.length) ∧ M.length ≤ m) (fun (m : Nat) (M : List (List UInt8 × Bool)) (a e c o : Int) => D.length - m) 0 [] 0 0 0 0 (by repeat (first | exact kf_nil | (apply kf_in; focus rfl) | (apply kf_out; focus rfl))) (by repeat (first | exact kl_nil | exact kl_rest (by assumption) rfl | (apply kl_in; focus rfl) | (apply kl_out; focus rfl))) ?_ ?_ ?_ ?_
      · exact ⟨by omega, rfl, by rw [List.drop_zero]; omega, by rw [List.drop_zero]; omega, by rw [List.drop_zero]; omega, by rw [List.drop_zero]; omega, by omega, by omega, by omega, by omega, by omega, by simp⟩
      · exact ⟨rfl, trivial⟩
      · exact ⟨rfl, rfl, trivial⟩
      rintro m M a e c o ⟨hg1, hg2, hg3, hg4, hg5, hg6, hg7, hg8, hg9, hg10, hg11, hg12⟩
      refine T_seq ?_
      refine T_region ?_
      refine S_ 49 rfl rfl rfl _ (y_bin rfl rfl rfl (fun _ => b_lss)) ?_
      refine S_go (fun _ _ h => h) ?_
      refine T_seq ?_
      refine T_cond rfl (fun h49 => ?_) (fun h49 => ?_)
      · try simp only [decide_eq_true_eq, decide_eq_false_iff_not, Bool.or_eq_true, Bool.or_eq_false_iff, Bool.and_eq_true, Bool.and_eq_false_iff, Bool.not_eq_true', Bool.not_eq_false', Bool.not_eq_true, Bool.not_eq_false, Bool.not_true, Bool.not_false, Int.not_lt, Int.not_le, not_or, not_and, Classical.not_not] at h49
        obtain ⟨x1, he1⟩ : ∃ x, D[m]? = some x := ⟨_, List.getElem?_eq_getElem (by omega)⟩
        have hlp := len_putB x1.us (getB M x1.us || decide (x1.out = 3)) M
        refine T_skip_go (fun _ _ h => h) ?_
        refine T_seq ?_
        refine T_block ?_
        refine T_seq ?_
        refine T_region ?_
        refine S_ 50 rfl rfl rfl _ (y_indexOwn 21 rfl rfl rfl rfl Tryz.underlying85 sz87 (fun _ => by omega)) ?_
        refine S_ 51 rfl rfl rfl _ (y_loadO 21 rfl rfl rfl rfl (fun _ => rfl) (fun _ => he1) Tryz.underlying87 rfl sz87) ?_
        refine S_alloc 16 16 rfl rfl rfl rfl z87 ?_
        intro b16
        refine S_store 16 rfl rfl rfl rfl rfl rfl sz87 rfl rfl ?_
        refine S_go (fun _ _ h => h) ?_
        refine T_seq ?_
        refine T_seq ?_
        refine T_region ?_
        refine S_ 52 rfl rfl rfl _ (y_fieldAddr rfl rfl fa87_2) ?_
        refine S_ 53 rfl rfl rfl _ (y_load 16 rfl rfl rfl rfl Tryz.underlying9 rfl) ?_
        refine S_ 54 rfl rfl rfl _ (y_move rfl rfl) ?_
        refine S_ 55 rfl rfl rfl _ (y_bin rfl rfl rfl (fun _ => b_neqs)) ?_
        refine S_go (fun _ _ h => h) ?_
        refine T_cond rfl (fun h55 => ?_) (fun h55 => ?_)
        · try simp only [decide_eq_true_eq, decide_eq_false_iff_not, Bool.or_eq_true, Bool.or_eq_false_iff, Bool.and_eq_true, Bool.and_eq_false_iff, Bool.not_eq_true', Bool.not_eq_false', Bool.not_eq_true, Bool.not_eq_false, Bool.not_true, Bool.not_false, Int.not_lt, Int.not_le, not_or, not_and, Classical.not_not] at h55
          have hof := of_f (y := y) he1 h55
          refine T_exit_go (fun _ _ h => h) ?_
          refine T_region ?_
          refine S_ 92 rfl rfl rfl _ (y_bin rfl rfl rfl (fun hg => b_add (by omega))) ?_
          refine S_ 48 rfl rfl rfl _ (y_move rfl rfl) ?_
          refine S_nil (nextK6 (kf := [(16, 16), (48, 92)]) (kl := [(13, 13), (16, 16), (45, 45), (48, 92)]) (m + 1) M a e c o (by repeat (first | exact kf_nil | (apply kf_in; focus rfl) | (apply kf_out; focus rfl))) (by repeat (first | exact kl_nil | exact kl_rest (by assumption) rfl | (apply kl_in; focus rfl) | (apply kl_out; focus rfl))) ?_ ?_ ?_ ?_)
          · omega
          · rw [hof] at hg2 hg3 hg4 hg5 hg6
            exact ⟨by omega, hg2, hg3, hg4, hg5, hg6, by omega, by omega, by omega, by omega, hg11, by omega⟩
          · exact ⟨rfl, trivial⟩
          · exact ⟨rfl, rfl, trivial⟩
        · try simp only [decide_eq_true_eq, decide_eq_false_iff_not, Bool.or_eq_true, Bool.or_eq_false_iff, Bool.and_eq_true, Bool.and_eq_false_iff, Bool.not_eq_true', Bool.not_eq_false', Bool.not_eq_true, Bool.not_eq_false, Bool.not_true, Bool.not_false, Int.not_lt, Int.not_le, not_or, not_and, Classical.not_not] at h55
          have hof := of_t (y := y) he1 h55
          refine T_skip_go (fun _ _ h => h) ?_
          refine T_seq ?_
          refine T_region ?_
          refine S_ 56 rfl rfl rfl _ (y_fieldAddr rfl rfl fa96_1) ?_
          refine S_ 57 rfl rfl rfl _ (y_load 13 rfl rfl rfl rfl Tryz.underlying3 rfl) ?_
          refine S_ 58 rfl rfl rfl _ (y_bin rfl rfl rfl (fun hg => b_add (by omega))) ?_
          refine S_ 59 rfl rfl rfl _ (y_fieldAddr rfl rfl fa96_1) ?_
          refine S_store 13 rfl rfl rfl rfl rfl rfl sz3 rfl rfl ?_
          refine S_go (fun _ _ h => h) ?_
          refine T_seq ?_
          refine T_region ?_
          refine S_ 60 rfl rfl rfl _ (y_move rfl rfl) ?_
          refine S_ 61 rfl rfl rfl _ (y_fieldAddr rfl rfl fa87_4) ?_
          refine S_ 62 rfl rfl rfl _ (y_load 16 rfl rfl rfl rfl Tryz.underlying9 rfl) ?_
          refine S_ 63 rfl rfl rfl _ (y_move rfl rfl) ?_
          refine S_ 64 rfl rfl rfl _ (y_fieldAddr rfl rfl fa87_4) ?_
          refine S_ 65 rfl rfl rfl _ (y_load 16 rfl rfl rfl rfl Tryz.underlying9 rfl) ?_
          refine S_ 66 rfl rfl rfl _ (y_as (v' := .bool (getB M x1.us)) (by exact mget_miB _ _) (y_lookup 45 (enc := fun l : List UInt8 => str l) rfl rfl rfl rfl Tryz.underlying164 Tryz.underlying9 rfl same_str z4)) ?_
          refine S_ 67 rfl rfl rfl _ (y_move rfl rfl) ?_
          refine Sg_ 68 rfl rfl rfl rfl rfl rfl _ (y_fieldAddr rfl rfl fa87_3) ?_
          refine Sg_ 69 rfl rfl rfl rfl rfl rfl _ (y_load 16 rfl rfl rfl rfl Tryz.underlying3 rfl) ?_
          refine Sg_ 70 rfl rfl rfl rfl rfl rfl _ (y_bin rfl rfl rfl (fun _ => b_eql)) ?_
          refine S_ 71 rfl rfl rfl _ (y_or rfl rfl rfl) ?_
          refine S_mapUpdate 45 (enc := fun l : List UInt8 => str l) rfl rfl rfl rfl rfl rfl rfl Tryz.underlying164 Tryz.underlying9 rfl same_str fits_str (mput_miB _ _ _) ?_
          refine S_go (fun _ _ h => h) ?_
          refine T_seq ?_
          refine T_region ?_
          refine S_ 72 rfl rfl rfl _ (y_fieldAddr rfl rfl fa87_3) ?_
          refine S_ 73 rfl rfl rfl _ (y_load 16 rfl rfl rfl rfl Tryz.underlying3 rfl) ?_
          refine S_go (fun _ _ h => h) ?_
          refine T_block ?_
          refine T_seq ?_
          refine T_region ?_
          refine S_ 75 rfl rfl rfl _ (y_bin rfl rfl rfl (fun _ => b_eql)) ?_
          refine S_ 74 rfl rfl rfl _ (y_assign rfl rfl) ?_
          refine S_go (fun _ _ h => h) ?_
          refine T_cond rfl (fun h74 => ?_) (fun h74 => ?_)
          · try simp only [decide_eq_true_eq, decide_eq_false_iff_not, Bool.or_eq_true, Bool.or_eq_false_iff, Bool.and_eq_true, Bool.and_eq_false_iff, Bool.not_eq_true', Bool.not_eq_false', Bool.not_eq_true, Bool.not_eq_false, Bool.not_true, Bool.not_false, Int.not_lt, Int.not_le, not_or, not_and, Classical.not_not] at h74
            refine T_region ?_
            refine S_ 76 rfl rfl rfl _ (y_fieldAddr rfl rfl fa96_2) ?_
            refine S_ 77 rfl rfl rfl _ (y_load 13 rfl rfl rfl rfl Tryz.underlying3 rfl) ?_
            refine S_ 78 rfl rfl rfl _ (y_bin rfl rfl rfl (fun hg => b_add (by omega))) ?_
            refine S_ 79 rfl rfl rfl _ (y_fieldAddr rfl rfl fa96_2) ?_
            refine S_store 13 rfl rfl rfl rfl rfl rfl sz3 rfl rfl ?_
            refine S_go (fun _ _ h => h) ?_
            refine T_region ?_
            refine S_ 92 rfl rfl rfl _ (y_bin rfl rfl rfl (fun hg => b_add (by omega))) ?_
            refine S_ 48 rfl rfl rfl _ (y_move rfl rfl) ?_
            refine S_nil (nextK6 (kf := [(16, 16), (48, 92)]) (kl := [(13, 13), (16, 16), (45, 45), (48, 92)]) (m + 1) (putB M x1.us (getB M x1.us || decide (x1.out = 3))) (a + 1) (e + 1) c o (by repeat (first | exact kf_nil | (apply kf_in; focus rfl) | (apply kf_out; focus rfl))) (by repeat (first | exact kl_nil | exact kl_rest (by assumption) rfl | (apply kl_in; focus rfl) | (apply kl_out; focus rfl))) ?_ ?_ ?_ ?_)
            · omega
            · rw [hof] at hg2 hg3 hg4 hg5 hg6
              rw [cntO] at hg3 hg4 hg5
              rw [List.length_cons] at hg6
              refine ⟨by omega, by rw [← hg2, crF], ?_, ?_, ?_, by omega, by omega, by omega, by omega, by omega, fun _ => by omega, by omega⟩
              · rw [← hg3]; split <;> omega
              · rw [← hg4]; split <;> omega
              · rw [← hg5]; split <;> omega
            · exact ⟨rfl, trivial⟩
            · exact ⟨rfl, rfl, trivial⟩
          · try simp only [decide_eq_true_eq, decide_eq_false_iff_not, Bool.or_eq_true, Bool.or_eq_false_iff, Bool.and_eq_true, Bool.and_eq_false_iff, Bool.not_eq_true', Bool.not_eq_false', Bool.not_eq_true, Bool.not_eq_false, Bool.not_true, Bool.not_false, Int.not_lt, Int.not_le, not_or, not_and, Classical.not_not] at h74
            refine T_seq ?_
            refine T_region ?_
            refine S_ 81 rfl rfl rfl _ (y_bin rfl rfl rfl (fun _ => b_eql)) ?_
            refine S_ 80 rfl rfl rfl _ (y_assign rfl rfl) ?_
            refine S_go (fun _ _ h => h) ?_
            refine T_cond rfl (fun h80 => ?_) (fun h80 => ?_)
            · try simp only [decide_eq_true_eq, decide_eq_false_iff_not, Bool.or_eq_true, Bool.or_eq_false_iff, Bool.and_eq_true, Bool.and_eq_false_iff, Bool.not_eq_true', Bool.not_eq_false', Bool.not_eq_true, Bool.not_eq_false, Bool.not_true, Bool.not_false, Int.not_lt, Int.not_le, not_or, not_and, Classical.not_not] at h80
              refine T_region ?_
              refine S_ 82 rfl rfl rfl _ (y_fieldAddr rfl rfl fa96_3) ?_
              refine S_ 83 rfl rfl rfl _ (y_load 13 rfl rfl rfl rfl Tryz.underlying3 rfl) ?_
              refine S_ 84 rfl rfl rfl _ (y_bin rfl rfl rfl (fun hg => b_add (by omega))) ?_
              refine S_ 85 rfl rfl rfl _ (y_fieldAddr rfl rfl fa96_3) ?_
              refine S_store 13 rfl rfl rfl rfl rfl rfl sz3 rfl rfl ?_
              refine S_go (fun _ _ h => h) ?_
              refine T_region ?_
              refine S_ 92 rfl rfl rfl _ (y_bin rfl rfl rfl (fun hg => b_add (by omega))) ?_
              refine S_ 48 rfl rfl rfl _ (y_move rfl rfl) ?_
              refine S_nil (nextK6 (kf := [(16, 16), (48, 92)]) (kl := [(13, 13), (16, 16), (45, 45), (48, 92)]) (m + 1) (putB M x1.us (getB M x1.us || decide (x1.out = 3))) (a + 1) e (c + 1) o (by repeat (first | exact kf_nil | (apply kf_in; focus rfl) | (apply kf_out; focus rfl))) (by repeat (first | exact kl_nil | exact kl_rest (by assumption) rfl | (apply kl_in; focus rfl) | (apply kl_out; focus rfl))) ?_ ?_ ?_ ?_)
              · omega
              · rw [hof] at hg2 hg3 hg4 hg5 hg6
                rw [cntO] at hg3 hg4 hg5
                rw [List.length_cons] at hg6
                refine ⟨by omega, by rw [← hg2, crF], ?_, ?_, ?_, by omega, by omega, by omega, by omega, by omega, fun _ => by omega, by omega⟩
                · rw [← hg3]; split <;> omega
                · rw [← hg4]; split <;> omega
                · rw [← hg5]; split <;> omega
              · exact ⟨rfl, trivial⟩
              · exact ⟨rfl, rfl, trivial⟩
            · try simp only [decide_eq_true_eq, decide_eq_false_iff_not, Bool.or_eq_true, Bool.or_eq_false_iff, Bool.and_eq_true, Bool.and_eq_false_iff, Bool.not_eq_true', Bool.not_eq_false', Bool.not_eq_true, Bool.not_eq_false, Bool.not_true, Bool.not_false, Int.not_lt, Int.not_le, not_or, not_and, Classical.not_not] at h80
              refine T_seq ?_
              refine T_region ?_
              refine S_ 87 rfl rfl rfl _ (y_bin rfl rfl rfl (fun _ => b_eql)) ?_
              refine S_ 86 rfl rfl rfl _ (y_assign rfl rfl) ?_
              refine S_go (fun _ _ h => h) ?_
              refine T_cond rfl (fun h86 => ?_) (fun h86 => ?_)
              · try simp only [decide_eq_true_eq, decide_eq_false_iff_not, Bool.or_eq_true, Bool.or_eq_false_iff, Bool.and_eq_true, Bool.and_eq_false_iff, Bool.not_eq_true', Bool.not_eq_false', Bool.not_eq_true, Bool.not_eq_false, Bool.not_true, Bool.not_false, Int.not_lt, Int.not_le, not_or, not_and, Classical.not_not] at h86
                refine T_region ?_
                refine S_ 88 rfl rfl rfl _ (y_fieldAddr rfl rfl fa96_4) ?_
                refine S_ 89 rfl rfl rfl _ (y_load 13 rfl rfl rfl rfl Tryz.underlying3 rfl) ?_
                refine S_ 90 rfl rfl rfl _ (y_bin rfl rfl rfl (fun hg => b_add (by omega))) ?_
                refine S_ 91 rfl rfl rfl _ (y_fieldAddr rfl rfl fa96_4) ?_
                refine S_store 13 rfl rfl rfl rfl rfl rfl sz3 rfl rfl ?_
                refine S_go (fun _ _ h => h) ?_
                refine T_region ?_
                refine S_ 92 rfl rfl rfl _ (y_bin rfl rfl rfl (fun hg => b_add (by omega))) ?_
                refine S_ 48 rfl rfl rfl _ (y_move rfl rfl) ?_
                refine S_nil (nextK6 (kf := [(16, 16), (48, 92)]) (kl := [(13, 13), (16, 16), (45, 45), (48, 92)]) (m + 1) (putB M x1.us (getB M x1.us || decide (x1.out = 3))) (a + 1) e c (o + 1) (by repeat (first | exact kf_nil | (apply kf_in; focus rfl) | (apply kf_out; focus rfl))) (by repeat (first | exact kl_nil | exact kl_rest (by assumption) rfl | (apply kl_in; focus rfl) | (apply kl_out; focus rfl))) ?_ ?_ ?_ ?_)
                · omega
                · rw [hof] at hg2 hg3 hg4 hg5 hg6
                  rw [cntO] at hg3 hg4 hg5
                  rw [List.length_cons] at hg6
                  refine ⟨by omega, by rw [← hg2, crF], ?_, ?_, ?_, by omega, by omega, by omega, by omega, by omega, fun _ => by omega, by omega⟩
                  · rw [← hg3]; split <;> omega
                  · rw [← hg4]; split <;> omega
                  · rw [← hg5]; split <;> omega
                · exact ⟨rfl, trivial⟩
                · exact ⟨rfl, rfl, trivial⟩
              · try simp only [decide_eq_true_eq, decide_eq_false_iff_not, Bool.or_eq_true, Bool.or_eq_false_iff, Bool.and_eq_true, Bool.and_eq_false_iff, Bool.not_eq_true', Bool.not_eq_false', Bool.not_eq_true, Bool.not_eq_false, Bool.not_true, Bool.not_false, Int.not_lt, Int.not_le, not_or, not_and, Classical.not_not] at h86
                refine T_skip_go (fun _ _ h => h) ?_
                refine T_region ?_
                refine S_ 92 rfl rfl rfl _ (y_bin rfl rfl rfl (fun hg => b_add (by omega))) ?_
                refine S_ 48 rfl rfl rfl _ (y_move rfl rfl) ?_
                refine S_nil (nextK6 (kf := [(16, 16), (48, 92)]) (kl := [(13, 13), (16, 16), (45, 45), (48, 92)]) (m + 1) (putB M x1.us (getB M x1.us || decide (x1.out = 3))) (a + 1) e c o (by repeat (first | exact kf_nil | (apply kf_in; focus rfl) | (apply kf_out; focus rfl))) (by repeat (first | exact kl_nil | exact kl_rest (by assumption) rfl | (apply kl_in; focus rfl) | (apply kl_out; focus rfl))) ?_ ?_ ?_ ?_)
                · omega
                · rw [hof] at hg2 hg3 hg4 hg5 hg6
                  rw [cntO] at hg3 hg4 hg5
                  rw [List.length_cons] at hg6
                  refine ⟨by omega, by rw [← hg2, crF], ?_, ?_, ?_, by omega, by omega, by omega, by omega, by omega, fun _ => by omega, by omega⟩
                  · rw [← hg3]; split <;> omega
                  · rw [← hg4]; split <;> omega
                  · rw [← hg5]; split <;> omega
                · exact ⟨rfl, trivial⟩
                · exact ⟨rfl, rfl, trivial⟩
      · try simp only [decide_eq_true_eq, decide_eq_false_iff_not, Bool.or_eq_true, Bool.or_eq_false_iff, Bool.and_eq_true, Bool.and_eq_false_iff, Bool.not_eq_true', Bool.not_eq_false', Bool.not_eq_true, Bool.not_eq_false, Bool.not_true, Bool.not_false, Int.not_lt, Int.not_le, not_or, not_and, Classical.not_not] at h49
        have hd : ofN (D.drop m) y = [] := by rw [List.drop_eq_nil_of_le (by omega)]; rfl
        rw [hd] at hg2 hg3 hg4 hg5 hg6
        simp only [cntO, List.length_nil] at hg3 hg4 hg5 hg6
        have e0 : a = ((ofN D y).length : Int) := by omega
        have e1 : M = crF [] (ofN D y) := hg2
        have e2 : e = cntO 2 (ofN D y) := by omega
        have e3 : c = cntO 3 (ofN D y) := by omega
        have e4 : o = cntO 4 (ofN D y) := by omega
        have hM0 : 0 < M.length := hg11 (by omega)
        refine T_exit_go (fun _ _ h => h) ?_
        refine T_seq ?_
        refine T_region ?_
        refine S_ 17 rfl rfl rfl _ (y_assign rfl rfl) ?_
        refine S_go (fun _ _ h => h) ?_
        refine T_seq ?_
        refine T_seq ?_
        refine T_region ?_
        refine S_ 93 rfl rfl rfl _ (y_move rfl rfl) ?_
        refine S_rangeM 94 45 94 (fun p : List UInt8 × Bool => str p.1) (fun p : List UInt8 × Bool => Value.bool p.2) M (by rw [List.map_map]; rfl) rfl rfl rfl rfl rfl rfl (kt := 9) Tryz.underlying164 ?_
        intro r94 es94 ck94 hes94
        refine S_go (fun _ _ h => h) ?_
        refine T_block ?_
        refine T_loopK3 (kf := [(17, 17), (19, 19), (95, 102)]) (kl := [(17, 17), (19, 19), (94, 102)]) (fun (rem : List (List UInt8 × Bool)) (last : Option (List UInt8 × Bool)) (f : Int) => [(17, true, .int .i64 f)]) (fun (rem : List (List UInt8 × Bool)) (last : Option (List UInt8 × Bool)) (f : Int) => [(94, .blk r94 (IsIt (fun p : List UInt8 × Bool => str p.1) (fun p : List UInt8 × Bool => Value.bool p.2) b45 es94 ck94 rem last))]) (fun (rem : List (List UInt8 × Bool)) (last : Option (List UInt8 × Bool)) (f : Int) => f + nF rem = nF M ∧ 0 ≤ f ∧ f + (rem.length : Int) ≤ (M.length : Int)) (fun (rem : List (List UInt8 × Bool)) (last : Option (List UInt8 × Bool)) (f : Int) => rem.length) M none 0 (by repeat (first | exact kf_nil | (apply kf_in; focus rfl) | (apply kf_out; focus rfl))) (by repeat (first | exact kl_nil | exact kl_rest (by assumption) rfl | (apply kl_in; focus rfl) | (apply kl_out; focus rfl))) ?_ ?_ ?_ ?_
        · exact ⟨by omega, by omega, by omega⟩
        · exact ⟨rfl, trivial⟩
        · exact ⟨rfl, trivial⟩
        rintro rem last f ⟨hr1, hr2, hr3⟩
        refine T_seq ?_
        refine T_region ?_
        refine S_next 95 45 94 rfl rfl rfl rfl rfl rfl rfl ?_
        intro e95 ps95 hn95 hs95
        refine S_ 96 rfl rfl rfl _ (y_extract (v := .bool e95.isSome) rfl rfl (by cases e95 <;> rfl)) ?_
        refine S_go (fun _ _ h => h) ?_
        refine T_seq ?_
        refine T_cond rfl (fun h96 => ?_) (fun h96 => ?_)
        · skip
          obtain ⟨p, rfl⟩ := Option.isSome_iff_exists.1 h96
          have hpm := hs95 p rfl
          refine T_skip_go (fun _ _ h => h) ?_
          refine T_block ?_
          refine T_seq ?_
          refine T_region ?_
          refine S_ 97 rfl rfl rfl _ (y_entry 45 94 rfl rfl rfl rfl) ?_
          refine S_ 98 rfl rfl rfl _ (y_as (v' := .bool p.2) (by exact rfl) (y_extract rfl rfl rfl)) ?_
          refine S_ 19 rfl rfl rfl _ (y_assign rfl rfl) ?_
          refine S_go (fun _ _ h => h) ?_
          refine T_seq ?_
          refine T_region ?_
          refine S_ 99 rfl rfl rfl _ (y_move rfl rfl) ?_
          refine S_ 100 rfl rfl rfl _ (y_not rfl rfl) ?_
          refine S_go (fun _ _ h => h) ?_
          refine T_cond rfl (fun h100 => ?_) (fun h100 => ?_)
          · skip
            refine T_region ?_
            refine S_ 101 rfl rfl rfl _ (y_move rfl rfl) ?_
            refine S_ 102 rfl rfl rfl _ (y_bin rfl rfl rfl (fun hg => b_add (by omega))) ?_
            refine S_ 17 rfl rfl rfl _ (y_assign rfl rfl) ?_
            refine S_nil (nextK3 (kf := [(17, 17), (19, 19), (95, 102)]) (kl := [(17, 17), (19, 19), (94, 102)]) ps95 (some p) (f + 1) (by repeat (first | exact kf_nil | (apply kf_in; focus rfl) | (apply kf_out; focus rfl))) (by repeat (first | exact kl_nil | exact kl_rest (by assumption) rfl | (apply kl_in; focus rfl) | (apply kl_out; focus rfl))) ?_ ?_ ?_ ?_)
            · have := hpm.length_eq; simp at this; omega
            · have h1 := hpm.length_eq
              simp at h1
              have h2 := nF_perm hpm
              rw [nF, if_neg (by simpa using h100)] at h2
              exact ⟨by omega, by omega, by omega⟩
            · exact ⟨rfl, trivial⟩
            · exact ⟨rfl, trivial⟩
          · skip
            refine T_skip (nextK3 (kf := [(17, 17), (19, 19), (95, 102)]) (kl := [(17, 17), (19, 19), (94, 102)]) ps95 (some p) f (by repeat (first | exact kf_nil | (apply kf_in; focus rfl) | (apply kf_out; focus rfl))) (by repeat (first | exact kl_nil | exact kl_rest (by assumption) rfl | (apply kl_in; focus rfl) | (apply kl_out; focus rfl))) ?_ ?_ ?_ ?_)
            · have := hpm.length_eq; simp at this; omega
            · have h1 := hpm.length_eq
              simp at h1
              have h2 := nF_perm hpm
              rw [nF, if_pos (by simpa using h100)] at h2
              exact ⟨by omega, by omega, by omega⟩
            · exact ⟨rfl, trivial⟩
            · exact ⟨rfl, trivial⟩
        · skip
          have hq9 : e95 = none := by simpa using h96
          have hr0 := hn95 hq9
          have e5 : f = nF M := by rw [← hr1, hr0, nF]; omega
          refine T_exit_go (fun _ _ h => h) ?_
          refine T_seq ?_
          refine T_region ?_
          refine S_remap 45 rfl hes94 ?_
          refine S_ 103 rfl rfl rfl _ (y_move rfl rfl) ?_
          refine S_ 104 rfl rfl rfl _ (y_as (v' := .int .i64 (M.length : Int)) (by rw [List.length_map]) (y_len_map 45 rfl rfl rfl Tryz.underlying164)) ?_
          refine S_ 105 rfl rfl rfl _ (y_fieldAddr rfl rfl fa96_5) ?_
          refine S_store 13 rfl rfl rfl rfl rfl rfl sz3 rfl rfl ?_
          refine S_go (fun _ _ h => h) ?_
          refine T_seq ?_
          refine T_region ?_
          refine S_ 106 rfl rfl rfl _ (y_fieldAddr rfl rfl fa96_1) ?_
          refine S_ 107 rfl rfl rfl _ (y_load 13 rfl rfl rfl rfl Tryz.underlying3 rfl) ?_
          refine S_ 108 rfl rfl rfl _ (y_fieldAddr rfl rfl fa96_3) ?_
          refine S_ 109 rfl rfl rfl _ (y_load 13 rfl rfl rfl rfl Tryz.underlying3 rfl) ?_
          refine S_ 110 rfl rfl rfl _ (y_bin rfl rfl rfl (fun hg => b_sub (by omega))) ?_
          refine S_ 111 rfl rfl rfl _ (y_bin rfl rfl rfl (fun hg => b_mul (by omega))) ?_
          refine S_ 112 rfl rfl rfl _ (y_fieldAddr rfl rfl fa96_1) ?_
          refine S_ 113 rfl rfl rfl _ (y_load 13 rfl rfl rfl rfl Tryz.underlying3 rfl) ?_
          refine S_ 114 rfl rfl rfl _ (y_bin rfl rfl rfl (fun hg => b_quov (10000 * (a - c) / a) (by omega) (by omega) (by omega) (by omega))) ?_
          refine S_ 115 rfl rfl rfl _ (y_fieldAddr rfl rfl fa96_6) ?_
          refine S_store 13 rfl rfl rfl rfl rfl rfl sz3 rfl rfl ?_
          refine S_go (fun _ _ h => h) ?_
          refine T_seq ?_
          refine T_region ?_
          refine S_ 116 rfl rfl rfl _ (y_move rfl rfl) ?_
          refine S_ 117 rfl rfl rfl _ (y_bin rfl rfl rfl (fun hg => b_mul (by omega))) ?_
          refine S_ 118 rfl rfl rfl _ (y_fieldAddr rfl rfl fa96_5) ?_
          refine S_ 119 rfl rfl rfl _ (y_load 13 rfl rfl rfl rfl Tryz.underlying3 rfl) ?_
          refine S_ 120 rfl rfl rfl _ (y_bin rfl rfl rfl (fun hg => b_quov (10000 * f / (M.length : Int)) (by omega) (by omega) (by omega) (by omega))) ?_
          refine S_ 121 rfl rfl rfl _ (y_fieldAddr rfl rfl fa96_7) ?_
          refine S_store 13 rfl rfl rfl rfl rfl rfl sz3 rfl rfl ?_
          refine S_go (fun _ _ h => h) ?_
          refine T_seq ?_
          refine T_region ?_
          refine S_ 122 rfl rfl rfl _ (y_fieldAddr rfl rfl fa96_1) ?_
          refine S_ 123 rfl rfl rfl _ (y_load 13 rfl rfl rfl rfl Tryz.underlying3 rfl) ?_
          refine S_ 124 rfl rfl rfl _ (y_bin rfl rfl rfl (fun hg => b_mul (by omega))) ?_
          refine S_ 125 rfl rfl rfl _ (y_move rfl rfl) ?_
          refine S_ 126 rfl rfl rfl _ (y_len_slice rfl rfl Tryz.underlying85) ?_
          refine S_ 127 rfl rfl rfl _ (y_bin rfl rfl rfl (fun hg => b_quov (10000 * a / (D.length : Int)) (by omega) (by omega) (by omega) (by omega))) ?_
          refine S_ 128 rfl rfl rfl _ (y_fieldAddr rfl rfl fa96_8) ?_
          refine S_store 13 rfl rfl rfl rfl rfl rfl sz3 rfl rfl ?_
          refine S_go (fun _ _ h => h) ?_
          refine T_region ?_
          refine S_ 129 rfl rfl rfl _ (y_move rfl rfl) ?_
          refine S_ 130 rfl rfl rfl _ (y_as (v' := (heaR y (ofN D y) (D.length : Int)).val) (by rw [heaR, ← e0, ← e2, ← e3, ← e4, ← e1, ← e5]; rfl) (y_loadA 13 rfl rfl rfl Tryz.underlying96 rfl sz96)) ?_
          refine S_buildSlice 131 131 rfl rfl rfl rfl rfl Tryz.underlying89 inf96 rfl (by decide) (by decide) rfl rfl (by decide) rfl (_) rfl ?_
          intro b131
          obtain ⟨i132, hi132, hz132, hs132, hy132⟩ := info_parts inf96
          refine S_append 132 10 131 rfl rfl rfl rfl rfl rfl rfl rfl Tryz.underlying89 hi132 hz132 hs132 hy132 rfl (by decide) (by decide) rfl ?_ ?_ ((O ++ [heaR y (ofN D y) (D.length : Int)]).length) ((O ++ [heaR y (ofN D y) (D.length : Int)]).flatMap PHea.enc) ?_ ?_ ?_
          · (simp only [maxLen]; omega)
          · omega
          · simp
          · simp [List.flatMap_append]; rfl
          intro A132 c132
          refine S_ 10 rfl rfl rfl _ (y_assign rfl rfl) ?_
          refine S_go (fun _ _ h => h) ?_
          refine T_region ?_
          refine S_ 133 rfl rfl rfl _ (y_bin rfl rfl rfl (fun hg => b_add (by omega))) ?_
          refine S_ 39 rfl rfl rfl _ (y_move rfl rfl) ?_
          refine S_nil (nextK4 (kf := [(10, 10), (12, 14), (16, 17), (19, 19), (39, 133)]) (kl := [(10, 10), (12, 14), (16, 17), (19, 19), (39, 133)]) (j + 1) (O ++ [heaR y (ofN D y) (D.length : Int)]) A132 c132 (by repeat (first | exact kf_nil | (apply kf_in; focus rfl) | (apply kf_out; focus rfl))) (by repeat (first | exact kl_nil | exact kl_rest (by assumption) rfl | (apply kl_in; focus rfl) | (apply kl_out; focus rfl))) ?_ ?_ ?_ ?_)
          · omega
          · exact ⟨by omega, by rw [List.take_add_one, hn1, List.map_append, ← ho2]; rfl, by rw [List.length_append, List.length_singleton]; omega, ho4⟩
          · exact ⟨rfl, rfl, trivial⟩
          · exact ⟨rfl, trivial⟩
    · try simp only [decide_eq_true_eq, decide_eq_false_iff_not, Bool.or_eq_true, Bool.or_eq_false_iff, Bool.and_eq_true, Bool.and_eq_false_iff, Bool.not_eq_true', Bool.not_eq_false', Bool.not_eq_true, Bool.not_eq_false, Bool.not_true, Bool.not_false, Int.not_lt, Int.not_le, not_or, not_and, Classical.not_not] at h40
      refine T_exit_go (fun _ _ h => h) ?_
      refine T_seq ?_
      refine T_region ?_
      refine S_ 134 rfl rfl rfl _ (y_move rfl rfl) ?_
      refine S_ 6 rfl rfl rfl _ (y_assign rfl rfl) ?_
      refine S_go (fun _ _ h => h) ?_
      refine T_ret (fun a w hF hM => hRb a w (post1 rfl rfl (fun w hM => ?_) a w hF hM))
      have hR : heaL D = O := by
        rw [heaL, hsr, ← hN, ho2, List.take_of_length_le (by omega)]; rfl
      rw [hR]
      exact ⟨A10, c10, rfl, hM.sat 10 _ rfl, hM.below⟩
theorem heaO_len (l : Sl SSes) (fr tl : Int) : (heaO l fr tl).length ≤ l.l.length ∧ (heaL (picked l.l fr tl)).length ≤ l.l.length := by
  have h1 : (heaL (picked l.l fr tl)).length ≤ l.l.length := by
    rw [heaL, List.length_map]
    have := srtR_len ((picked l.l fr tl).map SSes.rel)
    rw [List.length_map] at this
    exact Nat.le_trans this (List.length_filter_le _ _)
  refine ⟨?_, h1⟩
  unfold heaO
  split
  · exact h1
  · exact Nat.zero_le _
set_option maxHeartbeats 3200000 in
theorem ReleaseHealth_any (l : Sl SSes) (fr tl : Int) (w : World) (hl : SesOk w l) (hP : P10 w) :
    Calls Tryz.prog 10 #[.slice l.A l.q l.c, .int .i64 fr, .int .i64 tl] w fun e w' => e = .returned (.bool true) ∧ Below w.heap.size w w' := by
  have ht := hl.ok.t
  have hlen := ht.len
  have hlq := hl.q
  obtain ⟨hol, hll⟩ := heaO_len l fr tl
  refine enter_args (args := [.slice l.A l.q l.c, .int .i64 fr, .int .i64 tl]) (F := _) Tryz.func10 rfl Tryz.ntmps10 rfl rfl ?_
  intro Rb hRb hRn
  refine T_seq ?_
  refine T_region ?_
  refine S_ 6 rfl rfl rfl _ (y_assign rfl rfl) ?_
  refine S_go (fun _ _ h => h) ?_
  refine T_seq ?_
  refine T_seq ?_
  refine T_region ?_
  refine S_ 13 rfl rfl rfl _ (y_move rfl rfl) ?_
  refine S_ 14 rfl rfl rfl _ (y_len_slice rfl rfl Tryz.underlying85) ?_
  refine S_ 15 rfl rfl rfl _ (y_move rfl rfl) ?_
  refine S_go (fun _ _ h => h) ?_
  refine T_block ?_
  refine T_loopK1 (kf := [(6, 6), (8, 8), (15, 24)]) (kl := [(6, 6), (8, 8), (15, 24)]) (fun (i : Nat) => [(15, true, .int .i64 (i : Int))]) (fun (i : Nat) => []) (fun (i : Nat) => i ≤ l.q) (fun (i : Nat) => l.q - i) 0 (by repeat (first | exact kf_nil | (apply kf_in; focus rfl) | (apply kf_out; focus rfl))) (by repeat (first | exact kl_nil | exact kl_rest (by assumption) rfl | (apply kl_in; focus rfl) | (apply kl_out; focus rfl))) ?_ ?_ ?_ ?_
  · omega
  · exact ⟨rfl, trivial⟩
  · exact trivial
  rintro i hp1
  refine T_seq ?_
  refine T_region ?_
  refine S_ 16 rfl rfl rfl _ (y_bin rfl rfl rfl (fun _ => b_lss)) ?_
  refine S_go (fun _ _ h => h) ?_
  refine T_seq ?_
  refine T_cond rfl (fun h16 => ?_) (fun h16 => ?_)
  · try simp only [decide_eq_true_eq, decide_eq_false_iff_not, Bool.or_eq_true, Bool.or_eq_false_iff, Bool.and_eq_true, Bool.and_eq_false_iff, Bool.not_eq_true', Bool.not_eq_false', Bool.not_eq_true, Bool.not_eq_false, Bool.not_true, Bool.not_false, Int.not_lt, Int.not_le, not_or, not_and, Classical.not_not] at h16
    obtain ⟨x0, hx1, hx2⟩ := ht.at (i := i) (by omega)
    refine T_skip_go (fun _ _ h => h) ?_
    refine T_seq ?_
    refine T_block ?_
    refine T_seq ?_
    refine T_region ?_
    refine S_ 17 rfl rfl rfl _ (y_indexAddr rfl rfl rfl Tryz.underlying85 sz87 (fun hg => ht.isSome (by omega)) (fun _ => by omega)) ?_
    refine S_ 18 rfl rfl rfl _ (y_loadT rfl rfl ht (fun _ => rfl) (fun _ => hx1) Tryz.underlying87 rfl sz87) ?_
    refine S_alloc 8 8 rfl rfl rfl rfl z87 ?_
    intro b8
    refine S_store 8 rfl rfl rfl rfl rfl rfl sz87 rfl rfl ?_
    refine S_go (fun _ _ h => h) ?_
    refine T_seq ?_
    refine T_draws (by kernel_rfl) (by kernel_rfl) ?_
    refine D_ 19 rfl rfl rfl _ (y_loadA 8 rfl rfl rfl Tryz.underlying87 rfl sz87) ?_
    refine D_ 20 rfl rfl rfl _ (y_call rfl rfl rfl cf50 (fun _ w _ => CheckSession_any x0 w (hl.n x0 (mem_at hx1)))) ?_
    refine D_ 21 rfl rfl rfl _ (y_loadA 8 rfl rfl rfl Tryz.underlying87 rfl sz87) ?_
    refine D_ 22 rfl rfl rfl _ (y_call rfl rfl rfl cf51 (fun _ w _ => SessionFault_any x0 w (hl.n x0 (mem_at hx1)))) ?_
    refine D_ 23 rfl rfl rfl _ (y_bin rfl rfl rfl (fun _ => b_neq)) ?_
    refine D_go (fun _ _ h => h) ?_
    refine T_cond rfl (fun h23 => ?_) (fun h23 => ?_)
    · skip
      simp at h23
    · skip
      refine T_skip_go (fun _ _ h => h) ?_
      refine T_region ?_
      refine S_ 24 rfl rfl rfl _ (y_bin rfl rfl rfl (fun hg => b_add (by omega))) ?_
      refine S_ 15 rfl rfl rfl _ (y_move rfl rfl) ?_
      refine S_nil (nextK1 (kf := [(6, 6), (8, 8), (15, 24)]) (kl := [(6, 6), (8, 8), (15, 24)]) (i + 1) (by repeat (first | exact kf_nil | (apply kf_in; focus rfl) | (apply kf_out; focus rfl))) (by repeat (first | exact kl_nil | exact kl_rest (by assumption) rfl | (apply kl_in; focus rfl) | (apply kl_out; focus rfl))) ?_ ?_ ?_ ?_)
      · omega
      · omega
      · exact ⟨rfl, trivial⟩
      · exact trivial
  · try simp only [decide_eq_true_eq, decide_eq_false_iff_not, Bool.or_eq_true, Bool.or_eq_false_iff, Bool.and_eq_true, Bool.and_eq_false_iff, Bool.not_eq_true', Bool.not_eq_false', Bool.not_eq_true, Bool.not_eq_false, Bool.not_true, Bool.not_false, Int.not_lt, Int.not_le, not_or, not_and, Classical.not_not] at h16
    refine T_exit_go (fun _ _ h => h) ?_
    refine T_seq ?_
    refine T_region ?_
    refine S_ 26 rfl rfl rfl _ (y_move rfl rfl) ?_
    refine S_ 27 rfl rfl rfl _ (y_move rfl rfl) ?_
    refine S_ 28 rfl rfl rfl _ (y_move rfl rfl) ?_
    refine S_callOwn 29 29 rfl rfl rfl rfl rfl rfl rfl cf52 (fun A c => .tuple #[.slice A (heaO l fr tl).length c, .int .i64 (heaNo l fr tl)]) 96 9 ((heaO l fr tl).length) ((heaO l fr tl).flatMap PHea.enc) (fun w hM => Healthy_any l fr tl w (hl.below hM.below) (hP.below hM.below)) ?_
    intro A29 c29
    refine S_ 25 rfl rfl rfl _ (y_move rfl rfl) ?_
    refine S_ 30 rfl rfl rfl _ (y_extract rfl rfl rfl) ?_
    refine S_ 31 rfl rfl rfl _ (y_extract rfl rfl rfl) ?_
    refine S_ 9 rfl rfl rfl _ (y_assign rfl rfl) ?_
    refine S_ 10 rfl rfl rfl _ (y_assign rfl rfl) ?_
    refine S_go (fun _ _ h => h) ?_
    refine T_seq ?_
    refine T_region ?_
    refine S_ 32 rfl rfl rfl _ (y_move rfl rfl) ?_
    refine S_ 33 rfl rfl rfl _ (y_move rfl rfl) ?_
    refine S_ 34 rfl rfl rfl _ (y_move rfl rfl) ?_
    refine S_ 35 rfl rfl rfl _ (y_call rfl rfl rfl cf53 (fun _ w hM => HealthFault_any l fr tl w (hl.below hM.below))) ?_
    refine S_ 11 rfl rfl rfl _ (y_assign rfl rfl) ?_
    refine S_go (fun _ _ h => h) ?_
    refine T_seq ?_
    refine T_region ?_
    refine S_nilSlice 12 (e := 96) (size := 9) ?_
    refine S_ 12 rfl rfl rfl _ (y_assign rfl rfl) ?_
    refine S_go (fun _ _ h => h) ?_
    refine T_seq ?_
    refine T_seq ?_
    refine T_region ?_
    refine S_ 36 rfl rfl rfl _ (y_move rfl rfl) ?_
    refine S_ 37 rfl rfl rfl _ (y_bin rfl rfl rfl (fun _ => b_eql)) ?_
    refine S_go (fun _ _ h => h) ?_
    refine T_cond rfl (fun h37 => ?_) (fun h37 => ?_)
    · try simp only [decide_eq_true_eq, decide_eq_false_iff_not, Bool.or_eq_true, Bool.or_eq_false_iff, Bool.and_eq_true, Bool.and_eq_false_iff, Bool.not_eq_true', Bool.not_eq_false', Bool.not_eq_true, Bool.not_eq_false, Bool.not_true, Bool.not_false, Int.not_lt, Int.not_le, not_or, not_and, Classical.not_not] at h37
      have h37 : heaNo l fr tl = 0 := h37
      refine T_region ?_
      refine S_ 38 rfl rfl rfl _ (y_move rfl rfl) ?_
      refine S_ 39 rfl rfl rfl _ (y_move rfl rfl) ?_
      refine S_ 40 rfl rfl rfl _ (y_move rfl rfl) ?_
      refine S_callOwn 41 41 rfl rfl rfl rfl rfl rfl rfl cf54 (fun A c => .slice A (heaL (picked l.l fr tl)).length c) 96 9 ((heaL (picked l.l fr tl)).length) ((heaL (picked l.l fr tl)).flatMap PHea.enc) (fun w hM => HealthOf_any l fr tl w (hl.below hM.below) h37) ?_
      intro A41 c41
      refine S_ 12 rfl rfl rfl _ (y_assign rfl rfl) ?_
      refine S_go (fun _ _ h => h) ?_
      refine T_seq ?_
      refine T_region ?_
      refine S_ 42 rfl rfl rfl _ (y_move rfl rfl) ?_
      refine S_ 43 rfl rfl rfl _ (y_move rfl rfl) ?_
      refine S_ 44 rfl rfl rfl _ (y_move rfl rfl) ?_
      refine S_ 45 rfl rfl rfl _ (y_move rfl rfl) ?_
      refine S_ 46 rfl rfl rfl _ (y_call rfl rfl rfl cf55 (fun _ w hM => listedHe_any _ _ _ _ _ _ (heaO l fr tl) (heaL (picked l.l fr tl)) _ _ w (owned_T (enc := PHea.enc) hM rfl (i := 29) rfl) (owned_T (enc := PHea.enc) hM rfl (i := 41) rfl) (by omega) (by omega) rfl (fun h => absurd h37 h) (fun _ => (if_pos h37).symm))) ?_
      refine S_ 6 rfl rfl rfl _ (y_assign rfl rfl) ?_
      refine S_go (fun _ _ h => h) ?_
      refine T_ret (fun a w hF hM => hRb a w (post1 rfl rfl (fun w hM => ?_) a w hF hM))
      exact ⟨rfl, hM.below⟩
    · try simp only [decide_eq_true_eq, decide_eq_false_iff_not, Bool.or_eq_true, Bool.or_eq_false_iff, Bool.and_eq_true, Bool.and_eq_false_iff, Bool.not_eq_true', Bool.not_eq_false', Bool.not_eq_true, Bool.not_eq_false, Bool.not_true, Bool.not_false, Int.not_lt, Int.not_le, not_or, not_and, Classical.not_not] at h37
      have h37 : ¬ heaNo l fr tl = 0 := h37
      refine T_skip_go (fun _ _ h => h) ?_
      refine T_seq ?_
      refine T_region ?_
      refine S_ 42 rfl rfl rfl _ (y_move rfl rfl) ?_
      refine S_ 43 rfl rfl rfl _ (y_move rfl rfl) ?_
      refine S_ 44 rfl rfl rfl _ (y_move rfl rfl) ?_
      refine S_ 45 rfl rfl rfl _ (y_move rfl rfl) ?_
      refine S_ 46 rfl rfl rfl _ (y_call rfl rfl rfl cf55 (fun _ w hM => listedHe_any _ _ _ _ _ _ (heaO l fr tl) [] _ _ w (owned_T (enc := PHea.enc) hM rfl (i := 29) rfl) nilHe (by omega) (by decide) rfl (fun _ => if_neg h37) (fun h => absurd h h37))) ?_
      refine S_ 6 rfl rfl rfl _ (y_assign rfl rfl) ?_
      refine S_go (fun _ _ h => h) ?_
      refine T_ret (fun a w hF hM => hRb a w (post1 rfl rfl (fun w hM => ?_) a w hF hM))
      exact ⟨rfl, hM.below⟩
end Go.Proofs.YtpmlgnbbkpplhaaGreatDoor
end
section
namespace Go.Proofs.YtpmlgnbbkpplhaaGreatDoor
set_option linter.unusedSimpArgs false
set_option linter.unusedVariables false
set_option maxRecDepth 20000
open Go.RowKit Go.Eng
section
variable {H : Type} {enc : TypeId × Value → H} {w : World}
def IntOk (n : Int) : Prop := (Lit.int .i64 n).wf = true
def ShortS (s : List UInt8) : Prop := s.length ≤ reachBytes
theorem reach_len : reachBytes ≤ 4611686018427387904 := by decide
def strEnc (l : List UInt8) : List Value := [str l]
theorem op_s : Opn enc Tryz.prog w 9 strEnc ShortS (fun l d => d = .lit (.string l)) := opn_str Tryz.underlying9
theorem op_i : Opn enc Tryz.prog w 3 (fun n : Int => [Value.int .i64 n]) IntOk (fun n d => d = .lit (.int .i64 n)) := opn_int Tryz.underlying3
def slV {X : Type} (s : Sl X) : List Value := [.slice s.A s.q s.c]
end
end Go.Proofs.YtpmlgnbbkpplhaaGreatDoor
end
section
namespace Go.Proofs.YtpmlgnbbkpplhaaGreatDoor
set_option linter.unusedSimpArgs false
set_option linter.unusedVariables false
set_option maxRecDepth 20000
open Go.ChangeShapes Go.WideShapes Go.RowKit
theorem ownNone : ownKnob Tryz.prog.godebug = none := by kernel_rfl
theorem laidOut : laidOutB Tryz.prog = true := by kernel_rfl
def firstCells : Array Value := (Go.Pinned.utf8FirstZ.map fun n : Nat => Value.int .u8 (n : Int)).toArray
def tabCells (k : IntKind) (zs : List Int) : Array Value := (zs.map fun n => Value.int k n).toArray
def rangeZ : List Int := [128, 191, 160, 191, 128, 159, 144, 191, 128, 143, 0, 0, 0, 0, 0, 0, 0, 0, 0, 0, 0, 0, 0, 0, 0, 0, 0, 0, 0, 0, 0, 0]
def tz32Z : List Int := [0, 1, 28, 2, 29, 14, 24, 3, 30, 22, 20, 15, 25, 17, 4, 8, 31, 27, 13, 23, 21, 19, 16, 7, 26, 12, 18, 6, 11, 5, 10, 9]
def tz64Z : List Int := [0, 1, 56, 2, 57, 49, 28, 3, 61, 58, 42, 50, 38, 29, 17, 4, 62, 47, 59, 36, 45, 43, 51, 22, 53, 39, 33, 30, 24, 18, 12, 5, 63, 55, 48, 27, 60, 41, 37, 16, 46, 35, 44, 21, 52, 32, 23, 11, 54, 26, 40, 15, 34, 20, 31, 10, 25, 14, 19, 9, 13, 8, 7, 6]
def pow10Z : List Int := [1, 10, 100, 1000, 10000, 100000, 1000000, 10000000, 100000000, 1000000000, 10000000000, 100000000000, 1000000000000, 10000000000000, 100000000000000, 1000000000000000, 10000000000000000, 100000000000000000, 1000000000000000000, 10000000000000000000]
def layCells (cs : Array Value) : Obj → Obj
  | .cells _ t frozen => .cells cs t frozen
  | o => o
end Go.Proofs.YtpmlgnbbkpplhaaGreatDoor
end
section
namespace Go.Proofs.YtpmlgnbbkpplhaaGreatDoor
set_option linter.unusedSimpArgs false
set_option linter.unusedVariables false
set_option maxRecDepth 20000
open Go.ChangeShapes Go.WideShapes Go.RowKit
noncomputable def low2 : Nat := (World.holding Tryz.prog default ⟨#[], #[], []⟩).heap.size
def rangeT : List UInt8 := [118, 97, 108, 117, 101, 32, 111, 117, 116, 32, 111, 102, 32, 114, 97, 110, 103, 101]
def syntaxT : List UInt8 := [105, 110, 118, 97, 108, 105, 100, 32, 115, 121, 110, 116, 97, 120]
noncomputable def laidWorld2 (os : Os) (args : Array Value) : World :=
  { World.holding Tryz.prog os ⟨#[.cells #[.string ⟨rangeT.toArray⟩] 299, .cells #[.string ⟨syntaxT.toArray⟩] 299], args, []⟩ with heap := (((((((World.holding Tryz.prog os ⟨#[.cells #[.string ⟨rangeT.toArray⟩] 299, .cells #[.string ⟨syntaxT.toArray⟩] 299], args, []⟩).heap.modify 1 (layCells firstCells)).modify 2 (layCells (tabCells .u8 rangeZ))).modify 6 (layCells (tabCells .u8 tz32Z))).modify 7 (layCells (tabCells .u8 tz64Z))).modify 3 (layCells (tabCells .u64 pow10Z))).modify 5 (layCells #[.iface 297 (.pointer (some ⟨low2, 0, none⟩))])).modify 4 (layCells #[.iface 297 (.pointer (some ⟨low2 + 1, 0, none⟩))]) }
end Go.Proofs.YtpmlgnbbkpplhaaGreatDoor
end
