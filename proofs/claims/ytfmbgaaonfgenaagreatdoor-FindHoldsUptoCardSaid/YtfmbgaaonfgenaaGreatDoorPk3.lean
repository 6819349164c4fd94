/- Part 3, merged by a program. Conditions: too deep, too many, and whether each is right. Conditions: those of each theorem. Conditions: how many within one another, and the text of one. Conditions: those of each theorem. -/
import Derived.Test.YtfmbgaaonfgenaaGreatDoorTail
import Derived.Test.YtfmbgaaonfgenaaGreatDoorPk2
section
namespace Go.Proofs.YtfmbgaaonfgenaaGreatDoor
set_option linter.unusedSimpArgs false
set_option linter.unusedVariables false
set_option maxRecDepth 20000
open Go.RowKit Go.Eng
def fndP {α : Type} (p : α → Bool) : List α → Nat → Int
  | [], _ => -1
  | a :: r, i => if p a = true then (i : Int) else fndP p r (i + 1)
theorem fndP_any {α : Type} (p : α → Bool) : ∀ (l : List α) (i : Nat), decide (0 ≤ fndP p l i) = l.any p
  | [], i => rfl
  | a :: r, i => by
    rw [fndP, List.any_cons]
    cases h : p a with
    | true => rw [if_pos rfl, Bool.true_or]; exact decide_eq_true (by omega)
    | false => rw [if_neg Bool.false_ne_true, fndP_any p r, Bool.false_or]
theorem IndexFC_any (A : Option Addr) (q c : Nat) (l : List SC) (g : FuncId) (cap : Array Value) (p : SC → Bool) (w : World) (hl : SlT SC.enc 6 w A q l) (hq : q ≤ 4611686018427387904) (hcf : ∀ args w, (callFunc g args).run Tryz.prog w = .ok (.enter g args) w)
    (hA : ∀ x ∈ l, ∀ w', Below w.heap.size w w' → Calls Tryz.prog g (#[x.val] ++ cap) w' fun e w'' => e = .returned (.bool (p x)) ∧ Below w'.heap.size w' w'') :
    Calls Tryz.prog 149 #[.slice A q c, .func (.func g) #[] cap] w fun e w' => e = .returned (.int .i64 (fndP p l 0)) ∧ Below w.heap.size w w' := by
  refine enter_args (args := [.slice A q c, .func (.func g) #[] cap]) (F := _) Tryz.func149 rfl Tryz.ntmps149 rfl rfl ?_
  intro Rb hRb hRn
  refine T_seq ?_
  refine T_region ?_
  refine S_ 4 rfl rfl rfl _ (y_assign rfl rfl) ?_
  refine S_go (fun _ _ h => h) ?_
  refine T_seq ?_
  refine T_seq ?_
  refine T_region ?_
  refine S_ 6 rfl rfl rfl _ (y_move rfl rfl) ?_
  refine S_ 7 rfl rfl rfl _ (y_len_slice rfl rfl Tryz.underlying22) ?_
  refine S_ 8 rfl rfl rfl _ (y_move rfl rfl) ?_
  refine S_go (fun _ _ h => h) ?_
  refine T_block ?_
  refine T_loopK1 (kf := [(4, 5), (8, 18)]) (kl := [(4, 5), (8, 18)]) (fun (i : Nat) => [(8, true, .int .i64 (i : Int))]) (fun (i : Nat) => []) (fun (i : Nat) => i ≤ q ∧ fndP p l 0 = fndP p (l.drop i) i) (fun (i : Nat) => q - i) 0 (by repeat (first | exact kf_nil | (apply kf_in; focus rfl) | (apply kf_out; focus rfl))) (by repeat (first | exact kl_nil | exact kl_rest (by assumption) rfl | (apply kl_in; focus rfl) | (apply kl_out; focus rfl))) ?_ ?_ ?_ ?_
  · exact ⟨by omega, rfl⟩
  · exact ⟨rfl, trivial⟩
  · exact trivial
  rintro i ⟨hp1, hp2⟩
  refine T_seq ?_
  refine T_region ?_
  refine S_ 9 rfl rfl rfl _ (y_bin rfl rfl rfl (fun _ => b_lss)) ?_
  refine S_go (fun _ _ h => h) ?_
  refine T_seq ?_
  refine T_cond rfl (fun h9 => ?_) (fun h9 => ?_)
  · try simp only [decide_eq_true_eq, decide_eq_false_iff_not, Bool.or_eq_true, Bool.or_eq_false_iff, Bool.and_eq_true, Bool.and_eq_false_iff, Bool.not_eq_true', Bool.not_eq_false', Bool.not_eq_true, Bool.not_eq_false, Bool.not_true, Bool.not_false, Int.not_lt, Int.not_le, not_or, not_and, Classical.not_not] at h9
    obtain ⟨x, hx1, hx2⟩ := hl.at (i := i) (by omega)
    refine T_skip_go (fun _ _ h => h) ?_
    refine T_seq ?_
    refine T_block ?_
    refine T_seq ?_
    refine T_region ?_
    refine S_ 10 rfl rfl rfl _ (y_move rfl rfl) ?_
    refine S_ 5 rfl rfl rfl _ (y_assign rfl rfl) ?_
    refine S_go (fun _ _ h => h) ?_
    refine T_seq ?_
    refine T_region ?_
    refine S_ 11 rfl rfl rfl _ (y_move rfl rfl) ?_
    refine S_ 12 rfl rfl rfl _ (y_move rfl rfl) ?_
    refine S_ 13 rfl rfl rfl _ (y_move rfl rfl) ?_
    refine S_ 14 rfl rfl rfl _ (y_indexAddr rfl rfl rfl Tryz.underlying22 sz24 (fun hg => hl.isSome (by omega)) (fun _ => by omega)) ?_
    refine S_ 15 rfl rfl rfl _ (y_loadT rfl rfl hl (fun _ => rfl) (fun _ => hx1) Tryz.underlying24 rfl sz24) ?_
    refine S_ 16 rfl rfl rfl _ (y_call rfl rfl rfl hcf (fun _ w hM => hA x (mem_at hx1) w hM.below)) ?_
    refine S_go (fun _ _ h => h) ?_
    refine T_cond rfl (fun h16 => ?_) (fun h16 => ?_)
    · skip
      refine T_seq ?_
      refine T_region ?_
      refine S_ 17 rfl rfl rfl _ (y_move rfl rfl) ?_
      refine S_ 4 rfl rfl rfl _ (y_assign rfl rfl) ?_
      refine S_go (fun _ _ h => h) ?_
      refine T_ret (fun a w hF hM => hRb a w (post1 rfl rfl (fun w hM => ?_) a w hF hM))
      exact ⟨by rw [hp2, hx2, fndP, if_pos h16], hM.below⟩
    · skip
      refine T_skip_go (fun _ _ h => h) ?_
      refine T_region ?_
      refine S_ 18 rfl rfl rfl _ (y_bin rfl rfl rfl (fun hg => b_add (by omega))) ?_
      refine S_ 8 rfl rfl rfl _ (y_move rfl rfl) ?_
      refine S_nil (nextK1 (kf := [(4, 5), (8, 18)]) (kl := [(4, 5), (8, 18)]) (i + 1) (by repeat (first | exact kf_nil | (apply kf_in; focus rfl) | (apply kf_out; focus rfl))) (by repeat (first | exact kl_nil | exact kl_rest (by assumption) rfl | (apply kl_in; focus rfl) | (apply kl_out; focus rfl))) ?_ ?_ ?_ ?_)
      · omega
      · exact ⟨by omega, by rw [hp2, hx2, fndP, if_neg (by simp [h16])]⟩
      · exact ⟨rfl, trivial⟩
      · exact trivial
  · try simp only [decide_eq_true_eq, decide_eq_false_iff_not, Bool.or_eq_true, Bool.or_eq_false_iff, Bool.and_eq_true, Bool.and_eq_false_iff, Bool.not_eq_true', Bool.not_eq_false', Bool.not_eq_true, Bool.not_eq_false, Bool.not_true, Bool.not_false, Int.not_lt, Int.not_le, not_or, not_and, Classical.not_not] at h9
    refine T_exit_go (fun _ _ h => h) ?_
    refine T_seq ?_
    refine T_region ?_
    refine S_ 4 rfl rfl rfl _ (y_assign rfl rfl) ?_
    refine S_go (fun _ _ h => h) ?_
    refine T_ret (fun a w hF hM => hRb a w (post1 rfl rfl (fun w hM => ?_) a w hF hM))
    exact ⟨by rw [hp2, hl.end (by omega)]; rfl, hM.below⟩
theorem ContFC_any (A : Option Addr) (q c : Nat) (l : List SC) (g : FuncId) (cap : Array Value) (p : SC → Bool) (w : World) (hl : SlT SC.enc 6 w A q l) (hq : q ≤ 4611686018427387904) (hcf : ∀ args w, (callFunc g args).run Tryz.prog w = .ok (.enter g args) w)
    (hA : ∀ x ∈ l, ∀ w', Below w.heap.size w w' → Calls Tryz.prog g (#[x.val] ++ cap) w' fun e w'' => e = .returned (.bool (p x)) ∧ Below w'.heap.size w' w'') :
    Calls Tryz.prog 61 #[.slice A q c, .func (.func g) #[] cap] w fun e w' => e = .returned (.bool (l.any p)) ∧ Below w.heap.size w w' := by
  rw [← fndP_any p l 0]
  refine enter_args (args := [.slice A q c, .func (.func g) #[] cap]) (F := _) Tryz.func61 rfl Tryz.ntmps61 rfl rfl ?_
  intro Rb hRb hRn
  refine T_seq ?_
  refine T_region ?_
  refine S_ 4 rfl rfl rfl _ (y_assign rfl rfl) ?_
  refine S_go (fun _ _ h => h) ?_
  refine T_seq ?_
  refine T_region ?_
  refine S_ 5 rfl rfl rfl _ (y_move rfl rfl) ?_
  refine S_ 6 rfl rfl rfl _ (y_move rfl rfl) ?_
  refine S_ 7 rfl rfl rfl _ (y_call rfl rfl rfl cf149 (fun _ w hM => IndexFC_any A q c l g cap p w (hl.below hM.below) hq hcf fun x hx w1 hb => hA x hx w1 (hM.below.trans (hb.mono hM.below.size)))) ?_
  refine S_ 8 rfl rfl rfl _ (y_bin rfl rfl rfl (fun _ => b_geq)) ?_
  refine S_ 4 rfl rfl rfl _ (y_assign rfl rfl) ?_
  refine S_go (fun _ _ h => h) ?_
  refine T_ret (fun a w hF hM => hRb a w (post1 rfl rfl (fun w hM => ?_) a w hF hM))
  exact ⟨rfl, hM.below⟩
theorem cellK {w w' : World} {b off : Nat} {v : Value} (h : w.cell? ⟨b, off, none⟩ = some v ∧ b < w.heap.size) (hb : Below w.heap.size w w') : w'.cell? ⟨b, off, none⟩ = some v ∧ b < w'.heap.size :=
  ⟨by rw [World.cell?, hb.block _ h.2]; exact h.1, Nat.lt_of_lt_of_le h.2 hb.size⟩
theorem SC.Ok.parts {x : SC} {w : World} (h : x.Ok w) : Sl.Ok SC.enc 6 w ⟨x.ad, x.q, x.c, x.kids⟩ ∧ x.q ≤ 4611686018427387904 ∧ x.q * 80 ≤ 140737488355328 ∧ x.nm.length ≤ 4611686018427387904 ∧ x.tx.length ≤ 4611686018427387904 ∧ ∀ k ∈ x.kids, k.Ok w := by
  cases h with
  | mk h1 h2 h3 h4 h5 h6 => exact ⟨h1, h2, h3, h4, h5, h6⟩
def DeepAt (m : Nat) : Prop := ∀ (x : SC) (w : World), x.Ok w → Calls Tryz.prog 110 #[x.val, .int .i64 (m : Int)] w fun e w' => e = .returned (.bool (deepP m x.says)) ∧ Below w.heap.size w w'
theorem deep1_any (m : Nat) (hm : m ≤ 1000000) (ih : DeepAt m) (x : SC) (b : Nat) (w : World) (hk : x.Ok w) (hc : w.cell? ⟨b, 0, none⟩ = some (.int .i64 ((m + 1 : Nat) : Int)) ∧ b < w.heap.size) :
    Calls Tryz.prog 188 #[x.val, .pointer (some ⟨b, 0, none⟩)] w fun e w' => e = .returned (.bool (deepP m x.says)) ∧ Below w.heap.size w w' := by
  refine enter_args (args := [.agg #[.int .i64 x.op, .slice x.ad x.q x.c, .int .i64 x.lo, .int .i64 x.hi, str x.nm, str x.tx], .pointer (some ⟨b, 0, none⟩)]) (F := _) Tryz.func188 rfl Tryz.ntmps188 rfl rfl ?_
  intro Rb hRb hRn
  refine T_seq ?_
  refine T_region ?_
  refine S_box 2 2 rfl rfl rfl rfl rfl ?_
  intro b2
  refine S_ 3 rfl rfl rfl _ (y_assign rfl rfl) ?_
  refine S_go (fun _ _ h => h) ?_
  refine T_seq ?_
  refine T_region ?_
  refine S_ 4 rfl rfl rfl _ (y_loadA 2 rfl rfl rfl Tryz.underlying24 rfl sz24) ?_
  refine S_ 5 rfl rfl rfl _ (y_load_far rfl rfl hc.1 hc.2 Tryz.underlying3 rfl) ?_
  refine S_ 6 rfl rfl rfl _ (y_bin rfl rfl rfl (fun hg => b_subv (((m : Nat) : Int)) (by omega) (by omega))) ?_
  refine S_ 7 rfl rfl rfl _ (y_call rfl rfl rfl cf110 (fun _ w1 hM => ih x w1 (hk.lift hM.below))) ?_
  refine S_ 3 rfl rfl rfl _ (y_assign rfl rfl) ?_
  refine S_go (fun _ _ h => h) ?_
  refine T_ret (fun a w hF hM => hRb a w (post1 rfl rfl (fun w hM => ?_) a w hF hM))
  exact ⟨rfl, hM.below⟩
theorem deep_step (m : Nat) (hm : m + 1 ≤ 1000000) (ih : DeepAt m) : DeepAt (m + 1) := fun x w hok => by
  obtain ⟨hs, hq, hb, hn, ht, hk⟩ := hok.parts
  have e : deepP (m + 1) x.says = x.kids.any fun k => deepP m k.says := by rw [deepP, SC.says_kids, List.any_map]; rfl
  rw [e]
  refine enter_args (args := [.agg #[.int .i64 x.op, .slice x.ad x.q x.c, .int .i64 x.lo, .int .i64 x.hi, str x.nm, str x.tx], .int .i64 ((m + 1 : Nat) : Int)]) (F := _) Tryz.func110 rfl Tryz.ntmps110 rfl rfl ?_
  intro Rb hRb hRn
  refine T_seq ?_
  refine T_region ?_
  refine S_box 2 2 rfl rfl rfl rfl rfl ?_
  intro b2
  refine S_box 3 3 rfl rfl rfl rfl rfl ?_
  intro b3
  refine S_ 4 rfl rfl rfl _ (y_assign rfl rfl) ?_
  refine S_go (fun _ _ h => h) ?_
  refine T_seq ?_
  refine T_seq ?_
  refine T_region ?_
  refine S_ 5 rfl rfl rfl _ (y_load 3 rfl rfl rfl rfl Tryz.underlying3 rfl) ?_
  refine S_ 6 rfl rfl rfl _ (y_bin rfl rfl rfl (fun _ => b_eql)) ?_
  refine S_go (fun _ _ h => h) ?_
  refine T_cond rfl (fun h6 => ?_) (fun h6 => ?_)
  · skip
    have : ((m + 1 : Nat) : Int) = 0 := by simpa using h6
    omega
  · skip
    refine T_skip_go (fun _ _ h => h) ?_
    refine T_seq ?_
    refine T_region ?_
    refine S_ 7 rfl rfl rfl _ (y_fieldAddr rfl rfl fa24_1) ?_
    refine S_ 8 rfl rfl rfl _ (y_load 2 rfl rfl rfl rfl Tryz.underlying22 rfl) ?_
    refine S_ 9 rfl rfl rfl _ (y_makeFunc rfl rfl rfl rfl rfl) ?_
    refine S_ 10 rfl rfl rfl _ (y_call rfl rfl rfl cf61 (fun _ w1 hM => ContFC_any x.ad x.q x.c x.kids 188 _ (fun k => deepP m k.says) w1 (hs.t.below hM.below) hq cf188 (fun k hkm w2 hb2 => deep1_any m (by omega) ih k b3 w2 ((hk k hkm).lift (hM.below.trans (hb2.mono hM.below.size))) (cellK (hM.box_cell (i := 3) rfl rfl) hb2)))) ?_
    refine S_ 4 rfl rfl rfl _ (y_assign rfl rfl) ?_
    refine S_go (fun _ _ h => h) ?_
    refine T_ret (fun a w hF hM => hRb a w (post1 rfl rfl (fun w hM => ?_) a w hF hM))
    exact ⟨rfl, hM.below⟩
theorem deep_zero : DeepAt 0 := fun x w hok => by
  refine enter_args (args := [.agg #[.int .i64 x.op, .slice x.ad x.q x.c, .int .i64 x.lo, .int .i64 x.hi, str x.nm, str x.tx], .int .i64 ((0 : Nat) : Int)]) (F := _) Tryz.func110 rfl Tryz.ntmps110 rfl rfl ?_
  intro Rb hRb hRn
  refine T_seq ?_
  refine T_region ?_
  refine S_box 2 2 rfl rfl rfl rfl rfl ?_
  intro b2
  refine S_box 3 3 rfl rfl rfl rfl rfl ?_
  intro b3
  refine S_ 4 rfl rfl rfl _ (y_assign rfl rfl) ?_
  refine S_go (fun _ _ h => h) ?_
  refine T_seq ?_
  refine T_seq ?_
  refine T_region ?_
  refine S_ 5 rfl rfl rfl _ (y_load 3 rfl rfl rfl rfl Tryz.underlying3 rfl) ?_
  refine S_ 6 rfl rfl rfl _ (y_bin rfl rfl rfl (fun _ => b_eql)) ?_
  refine S_go (fun _ _ h => h) ?_
  refine T_cond rfl (fun h6 => ?_) (fun h6 => ?_)
  · skip
    refine T_seq ?_
    refine T_region ?_
    refine S_ 4 rfl rfl rfl _ (y_assign rfl rfl) ?_
    refine S_go (fun _ _ h => h) ?_
    refine T_ret (fun a w hF hM => hRb a w (post1 rfl rfl (fun w hM => ?_) a w hF hM))
    exact ⟨rfl, hM.below⟩
  · skip
    cases h6
theorem tooDeep_any : ∀ m : Nat, m ≤ 1000000 → DeepAt m
  | 0, _ => deep_zero
  | m + 1, h => deep_step m h (tooDeep_any m (by omega))
end Go.Proofs.YtfmbgaaonfgenaaGreatDoor
end
section
namespace Go.Proofs.YtfmbgaaonfgenaaGreatDoor
set_option linter.unusedSimpArgs false
set_option linter.unusedVariables false
set_option maxRecDepth 20000
open Go.RowKit Go.Eng
theorem SC.says_form (x : SC) : x.says = .mk x.op (x.kids.map SC.says) x.lo x.hi x.nm x.tx := by cases x; rw [SC.says_mk]; rfl
def SizeAt (x : SC) : Prop := ∀ (most : Int) (w : World), 0 ≤ most → most ≤ 1000000 → x.Ok w → Calls Tryz.prog 111 #[x.val, .int .i64 most] w fun e w' => e = .returned (.int .i64 (sizeP x.says most)) ∧ Below w.heap.size w w'
theorem size_step (x : SC) (ih : ∀ k ∈ x.kids, SizeAt k) : SizeAt x := fun most w hm0 hm1 hok => by
  obtain ⟨hs, hq, hb, hn, ht, hk⟩ := hok.parts
  have hl : SlT SC.enc 6 w x.ad x.q x.kids := hs.t
  rw [SC.says_form, sizeP]
  refine enter_args (args := [.agg #[.int .i64 x.op, .slice x.ad x.q x.c, .int .i64 x.lo, .int .i64 x.hi, str x.nm, str x.tx], .int .i64 most]) (F := _) Tryz.func111 rfl Tryz.ntmps111 rfl rfl ?_
  intro Rb hRb hRn
  refine T_seq ?_
  refine T_region ?_
  refine S_box 2 2 rfl rfl rfl rfl rfl ?_
  intro b2
  refine S_ 4 rfl rfl rfl _ (y_assign rfl rfl) ?_
  refine S_go (fun _ _ h => h) ?_
  refine T_seq ?_
  refine T_region ?_
  refine S_ 5 rfl rfl rfl _ (y_assign rfl rfl) ?_
  refine S_go (fun _ _ h => h) ?_
  refine T_seq ?_
  refine T_seq ?_
  refine T_region ?_
  refine S_ 8 rfl rfl rfl _ (y_fieldAddr rfl rfl fa24_1) ?_
  refine S_ 9 rfl rfl rfl _ (y_load 2 rfl rfl rfl rfl Tryz.underlying22 rfl) ?_
  refine S_ 10 rfl rfl rfl _ (y_len_slice rfl rfl Tryz.underlying22) ?_
  refine S_ 11 rfl rfl rfl _ (y_move rfl rfl) ?_
  refine S_go (fun _ _ h => h) ?_
  refine T_block ?_
  refine T_loopK2 (kf := [(5, 5), (7, 7), (11, 25)]) (kl := [(5, 5), (7, 7), (11, 25)]) (fun (i : Nat) (n : Int) => [(11, true, .int .i64 (i : Int)), (5, true, .int .i64 n)]) (fun (i : Nat) (n : Int) => []) (fun (i : Nat) (n : Int) => i ≤ x.q ∧ sizeL ((x.kids.drop i).map SC.says) n most = sizeL (x.kids.map SC.says) 1 most ∧ 1 ≤ n ∧ n ≤ most + 1) (fun (i : Nat) (n : Int) => x.q - i) 0 1 (by repeat (first | exact kf_nil | (apply kf_in; focus rfl) | (apply kf_out; focus rfl))) (by repeat (first | exact kl_nil | exact kl_rest (by assumption) rfl | (apply kl_in; focus rfl) | (apply kl_out; focus rfl))) ?_ ?_ ?_ ?_
  · exact ⟨by omega, rfl, by omega, by omega⟩
  · exact ⟨rfl, rfl, trivial⟩
  · exact trivial
  rintro i n ⟨hp1, hp2, hp3, hp4⟩
  refine T_seq ?_
  refine T_region ?_
  refine S_ 12 rfl rfl rfl _ (y_bin rfl rfl rfl (fun _ => b_lss)) ?_
  refine S_go (fun _ _ h => h) ?_
  refine T_seq ?_
  refine T_cond rfl (fun h12 => ?_) (fun h12 => ?_)
  · try simp only [decide_eq_true_eq, decide_eq_false_iff_not, Bool.or_eq_true, Bool.or_eq_false_iff, Bool.and_eq_true, Bool.and_eq_false_iff, Bool.not_eq_true', Bool.not_eq_false', Bool.not_eq_true, Bool.not_eq_false, Bool.not_true, Bool.not_false, Int.not_lt, Int.not_le, not_or, not_and, Classical.not_not] at h12
    obtain ⟨k, hx1, hx2⟩ := hl.at (i := i) (by omega)
    rw [hx2, List.map_cons, sizeL] at hp2
    refine T_skip_go (fun _ _ h => h) ?_
    refine T_seq ?_
    refine T_block ?_
    refine T_seq ?_
    refine T_region ?_
    refine S_ 13 rfl rfl rfl _ (y_indexAddr rfl rfl rfl Tryz.underlying22 sz24 (fun hg => hl.isSome (by omega)) (fun _ => by omega)) ?_
    refine S_ 14 rfl rfl rfl _ (y_loadT rfl rfl hl (fun _ => rfl) (fun _ => hx1) Tryz.underlying24 rfl sz24) ?_
    refine S_alloc 7 7 rfl rfl rfl rfl z24 ?_
    intro b7
    refine S_store 7 rfl rfl rfl rfl rfl rfl sz24 rfl rfl ?_
    refine S_go (fun _ _ h => h) ?_
    refine T_seq ?_
    refine T_seq ?_
    refine T_region ?_
    refine S_ 15 rfl rfl rfl _ (y_move rfl rfl) ?_
    refine S_ 16 rfl rfl rfl _ (y_move rfl rfl) ?_
    refine S_ 17 rfl rfl rfl _ (y_bin rfl rfl rfl (fun _ => b_gtr)) ?_
    refine S_go (fun _ _ h => h) ?_
    refine T_cond rfl (fun h17 => ?_) (fun h17 => ?_)
    · try simp only [decide_eq_true_eq, decide_eq_false_iff_not, Bool.or_eq_true, Bool.or_eq_false_iff, Bool.and_eq_true, Bool.and_eq_false_iff, Bool.not_eq_true', Bool.not_eq_false', Bool.not_eq_true, Bool.not_eq_false, Bool.not_true, Bool.not_false, Int.not_lt, Int.not_le, not_or, not_and, Classical.not_not] at h17
      have h17 : most < n := by omega
      rw [if_pos h17] at hp2
      refine T_exit_go (fun _ _ h => h) ?_
      refine T_seq ?_
      refine T_region ?_
      refine S_ 26 rfl rfl rfl _ (y_move rfl rfl) ?_
      refine S_ 4 rfl rfl rfl _ (y_assign rfl rfl) ?_
      refine S_go (fun _ _ h => h) ?_
      refine T_ret (fun a w hF hM => hRb a w (post1 rfl rfl (fun w hM => ?_) a w hF hM))
      exact ⟨by rw [← hp2], hM.below⟩
    · try simp only [decide_eq_true_eq, decide_eq_false_iff_not, Bool.or_eq_true, Bool.or_eq_false_iff, Bool.and_eq_true, Bool.and_eq_false_iff, Bool.not_eq_true', Bool.not_eq_false', Bool.not_eq_true, Bool.not_eq_false, Bool.not_true, Bool.not_false, Int.not_lt, Int.not_le, not_or, not_and, Classical.not_not] at h17
      have h17 : ¬ most < n := by omega
      rw [if_neg h17] at hp2
      have hz := sizeP_eq k.says (most - n) (by omega)
      have hc := cntP_pos k.says
      refine T_skip_go (fun _ _ h => h) ?_
      refine T_region ?_
      refine S_ 18 rfl rfl rfl _ (y_move rfl rfl) ?_
      refine S_ 19 rfl rfl rfl _ (y_loadA 7 rfl rfl rfl Tryz.underlying24 rfl sz24) ?_
      refine S_ 20 rfl rfl rfl _ (y_move rfl rfl) ?_
      refine S_ 21 rfl rfl rfl _ (y_move rfl rfl) ?_
      refine S_ 22 rfl rfl rfl _ (y_bin rfl rfl rfl (fun hg => b_sub (by omega))) ?_
      refine S_ 23 rfl rfl rfl _ (y_call rfl rfl rfl cf111 (fun _ w1 hM => ih k (mem_at hx1) (most - n) w1 (by omega) (by omega) ((hk k (mem_at hx1)).lift hM.below))) ?_
      refine S_ 24 rfl rfl rfl _ (y_bin rfl rfl rfl (fun hg => b_add (by omega))) ?_
      refine S_ 5 rfl rfl rfl _ (y_assign rfl rfl) ?_
      refine S_go (fun _ _ h => h) ?_
      refine T_region ?_
      refine S_ 25 rfl rfl rfl _ (y_bin rfl rfl rfl (fun hg => b_add (by omega))) ?_
      refine S_ 11 rfl rfl rfl _ (y_move rfl rfl) ?_
      refine S_nil (nextK2 (kf := [(5, 5), (7, 7), (11, 25)]) (kl := [(5, 5), (7, 7), (11, 25)]) (i + 1) (n + sizeP k.says (most - n)) (by repeat (first | exact kf_nil | (apply kf_in; focus rfl) | (apply kf_out; focus rfl))) (by repeat (first | exact kl_nil | exact kl_rest (by assumption) rfl | (apply kl_in; focus rfl) | (apply kl_out; focus rfl))) ?_ ?_ ?_ ?_)
      · omega
      · exact ⟨by omega, hp2, by omega, by omega⟩
      · exact ⟨rfl, rfl, trivial⟩
      · exact trivial
  · try simp only [decide_eq_true_eq, decide_eq_false_iff_not, Bool.or_eq_true, Bool.or_eq_false_iff, Bool.and_eq_true, Bool.and_eq_false_iff, Bool.not_eq_true', Bool.not_eq_false', Bool.not_eq_true, Bool.not_eq_false, Bool.not_true, Bool.not_false, Int.not_lt, Int.not_le, not_or, not_and, Classical.not_not] at h12
    refine T_exit_go (fun _ _ h => h) ?_
    refine T_seq ?_
    refine T_region ?_
    refine S_ 26 rfl rfl rfl _ (y_move rfl rfl) ?_
    refine S_ 4 rfl rfl rfl _ (y_assign rfl rfl) ?_
    refine S_go (fun _ _ h => h) ?_
    refine T_ret (fun a w hF hM => hRb a w (post1 rfl rfl (fun w hM => ?_) a w hF hM))
    exact ⟨by rw [← hp2, hl.end (by omega)]; rfl, hM.below⟩
theorem size_any (x : SC) : SizeAt x := SC.ind (Q := SizeAt) size_step x
def badC (c : UInt8) : Bool := decide (((c.toNat : Nat) : Int) < 32) || decide ((126 : Int) < ((c.toNat : Nat) : Int))
def txtNo (s : List UInt8) : Int := if s = [] then 1 else if (200 : Int) < s.length then 4 else if s.any badC = true then 9 else 0
theorem drD {p : List UInt8} {i : Nat} (h : i < p.length) : p.drop i = p.getD i 0 :: p.drop (i + 1) := by
  rw [List.drop_eq_getElem_cons h, List.getD_eq_getElem?_getD, List.getElem?_eq_getElem h]; rfl
theorem checkText_any (s : List UInt8) (w : World) :
    Calls Tryz.prog 193 #[str s] w fun e w' => e = .returned (.int .i64 (txtNo s)) ∧ Below w.heap.size w w' := by
  refine enter_args (args := [str s]) (F := _) Tryz.func193 rfl Tryz.ntmps193 rfl rfl ?_
  intro Rb hRb hRn
  refine T_seq ?_
  refine T_region ?_
  refine S_ 2 rfl rfl rfl _ (y_assign rfl rfl) ?_
  refine S_go (fun _ _ h => h) ?_
  refine T_seq ?_
  refine T_block ?_
  refine T_seq ?_
  refine T_region ?_
  refine S_ 5 rfl rfl rfl _ (y_move rfl rfl) ?_
  refine S_ 6 rfl rfl rfl _ (y_bin rfl rfl rfl (fun _ => b_eqls)) ?_
  refine S_ 4 rfl rfl rfl _ (y_assign rfl rfl) ?_
  refine S_go (fun _ _ h => h) ?_
  refine T_cond rfl (fun h4 => ?_) (fun h4 => ?_)
  · skip
    have h4 : s = [] := by simpa using h4
    have e1 : txtNo s = 1 := if_pos h4
    refine T_seq ?_
    refine T_region ?_
    refine S_ 2 rfl rfl rfl _ (y_assign rfl rfl) ?_
    refine S_go (fun _ _ h => h) ?_
    refine T_ret (fun a w hF hM => hRb a w (post1 rfl rfl (fun w hM => ?_) a w hF hM))
    exact ⟨by rw [e1], hM.below⟩
  · skip
    have h4 : ¬ s = [] := by simpa using h4
    refine T_seq ?_
    refine T_region ?_
    refine S_ 8 rfl rfl rfl _ (y_move rfl rfl) ?_
    refine S_ 9 rfl rfl rfl _ (y_len_str rfl rfl Tryz.underlying9) ?_
    refine S_ 10 rfl rfl rfl _ (y_bin rfl rfl rfl (fun _ => b_gtr)) ?_
    refine S_ 7 rfl rfl rfl _ (y_assign rfl rfl) ?_
    refine S_go (fun _ _ h => h) ?_
    refine T_cond rfl (fun h7 => ?_) (fun h7 => ?_)
    · skip
      have h7 : (200 : Int) < s.length := by simpa using h7
      have e1 : txtNo s = 4 := by rw [txtNo, if_neg h4, if_pos h7]
      refine T_seq ?_
      refine T_region ?_
      refine S_ 2 rfl rfl rfl _ (y_assign rfl rfl) ?_
      refine S_go (fun _ _ h => h) ?_
      refine T_ret (fun a w hF hM => hRb a w (post1 rfl rfl (fun w hM => ?_) a w hF hM))
      exact ⟨by rw [e1], hM.below⟩
    · skip
      have h7 : ¬ (200 : Int) < s.length := by simpa using h7
      refine T_skip_go (fun _ _ h => h) ?_
      refine T_seq ?_
      refine T_seq ?_
      refine T_region ?_
      refine S_ 11 rfl rfl rfl _ (y_move rfl rfl) ?_
      refine S_ 12 rfl rfl rfl _ (y_len_str rfl rfl Tryz.underlying9) ?_
      refine S_ 13 rfl rfl rfl _ (y_move rfl rfl) ?_
      refine S_go (fun _ _ h => h) ?_
      refine T_block ?_
      refine T_loopK1 (kf := [(2, 3), (13, 26)]) (kl := [(2, 3), (13, 26)]) (fun (i : Nat) => [(13, true, .int .i64 (i : Int))]) (fun (i : Nat) => []) (fun (i : Nat) => i ≤ s.length ∧ (s.drop i).any badC = s.any badC) (fun (i : Nat) => s.length - i) 0 (by repeat (first | exact kf_nil | (apply kf_in; focus rfl) | (apply kf_out; focus rfl))) (by repeat (first | exact kl_nil | exact kl_rest (by assumption) rfl | (apply kl_in; focus rfl) | (apply kl_out; focus rfl))) ?_ ?_ ?_ ?_
      · exact ⟨by omega, rfl⟩
      · exact ⟨rfl, trivial⟩
      · exact trivial
      rintro i ⟨hp1, hp2⟩
      refine T_seq ?_
      refine T_region ?_
      refine S_ 14 rfl rfl rfl _ (y_bin rfl rfl rfl (fun _ => b_lss)) ?_
      refine S_go (fun _ _ h => h) ?_
      refine T_seq ?_
      refine T_cond rfl (fun h14 => ?_) (fun h14 => ?_)
      · try simp only [decide_eq_true_eq, decide_eq_false_iff_not, Bool.or_eq_true, Bool.or_eq_false_iff, Bool.and_eq_true, Bool.and_eq_false_iff, Bool.not_eq_true', Bool.not_eq_false', Bool.not_eq_true, Bool.not_eq_false, Bool.not_true, Bool.not_false, Int.not_lt, Int.not_le, not_or, not_and, Classical.not_not] at h14
        have hd := drD (p := s) (i := i) (by omega)
        rw [hd, List.any_cons] at hp2
        refine T_skip_go (fun _ _ h => h) ?_
        refine T_seq ?_
        refine T_block ?_
        refine T_seq ?_
        refine T_region ?_
        refine S_ 15 rfl rfl rfl _ (y_move rfl rfl) ?_
        refine S_ 3 rfl rfl rfl _ (y_assign rfl rfl) ?_
        refine S_go (fun _ _ h => h) ?_
        refine T_seq ?_
        refine T_region ?_
        refine S_ 16 rfl rfl rfl _ (y_move rfl rfl) ?_
        refine S_ 17 rfl rfl rfl _ (y_move rfl rfl) ?_
        refine S_ 18 rfl rfl rfl _ (y_index_str rfl rfl rfl Tryz.underlying9 (fun _ => by omega)) ?_
        refine S_ 19 rfl rfl rfl _ (y_bin rfl rfl rfl (fun _ => b_lss)) ?_
        refine S_ 20 rfl rfl rfl _ (y_move rfl rfl) ?_
        refine Sg_ 21 rfl rfl rfl rfl rfl rfl _ (y_move rfl rfl) ?_
        refine Sg_ 22 rfl rfl rfl rfl rfl rfl _ (y_move rfl rfl) ?_
        refine Sg_ 23 rfl rfl rfl rfl rfl rfl _ (y_index_str rfl rfl rfl Tryz.underlying9 (fun hg => by simp only [Bool.true_and, Bool.and_eq_true, beq_iff_eq, decide_eq_true_eq, decide_eq_false_iff_not, Int.not_lt, Int.not_le] at hg; omega)) ?_
        refine Sg_ 24 rfl rfl rfl rfl rfl rfl _ (y_bin rfl rfl rfl (fun _ => b_gtr)) ?_
        refine S_ 25 rfl rfl rfl _ (y_as (v' := .bool (badC (s.getD i 0))) (by exact rfl) (y_or rfl rfl rfl)) ?_
        refine S_go (fun _ _ h => h) ?_
        refine T_cond rfl (fun h25 => ?_) (fun h25 => ?_)
        · skip
          rw [h25, Bool.true_or] at hp2
          have e1 : txtNo s = 9 := by rw [txtNo, if_neg h4, if_neg h7, if_pos hp2.symm]
          refine T_seq ?_
          refine T_region ?_
          refine S_ 2 rfl rfl rfl _ (y_assign rfl rfl) ?_
          refine S_go (fun _ _ h => h) ?_
          refine T_ret (fun a w hF hM => hRb a w (post1 rfl rfl (fun w hM => ?_) a w hF hM))
          exact ⟨by rw [e1], hM.below⟩
        · skip
          rw [h25, Bool.false_or] at hp2
          refine T_skip_go (fun _ _ h => h) ?_
          refine T_region ?_
          refine S_ 26 rfl rfl rfl _ (y_bin rfl rfl rfl (fun hg => b_add (by omega))) ?_
          refine S_ 13 rfl rfl rfl _ (y_move rfl rfl) ?_
          refine S_nil (nextK1 (kf := [(2, 3), (13, 26)]) (kl := [(2, 3), (13, 26)]) (i + 1) (by repeat (first | exact kf_nil | (apply kf_in; focus rfl) | (apply kf_out; focus rfl))) (by repeat (first | exact kl_nil | exact kl_rest (by assumption) rfl | (apply kl_in; focus rfl) | (apply kl_out; focus rfl))) ?_ ?_ ?_ ?_)
          · omega
          · exact ⟨by omega, hp2⟩
          · exact ⟨rfl, trivial⟩
          · exact trivial
      · try simp only [decide_eq_true_eq, decide_eq_false_iff_not, Bool.or_eq_true, Bool.or_eq_false_iff, Bool.and_eq_true, Bool.and_eq_false_iff, Bool.not_eq_true', Bool.not_eq_false', Bool.not_eq_true, Bool.not_eq_false, Bool.not_true, Bool.not_false, Int.not_lt, Int.not_le, not_or, not_and, Classical.not_not] at h14
        refine T_exit_go (fun _ _ h => h) ?_
        refine T_seq ?_
        refine T_region ?_
        refine S_ 2 rfl rfl rfl _ (y_assign rfl rfl) ?_
        refine S_go (fun _ _ h => h) ?_
        refine T_ret (fun a w hF hM => hRb a w (post1 rfl rfl (fun w hM => ?_) a w hF hM))
        have e1 : s.any badC = false := by rw [← hp2, List.drop_eq_nil_of_le (by omega)]; rfl
        exact ⟨by rw [txtNo, if_neg h4, if_neg h7, if_neg (by rw [e1]; simp)], hM.below⟩
theorem groups_any (op : Int) (w : World) : Calls Tryz.prog 189 #[.int .i64 op] w fun e w' => e = .returned (.bool (grpB op)) ∧ Below w.heap.size w w' := by
  refine enter_args (args := [.int .i64 op]) (F := _) Tryz.func189 rfl Tryz.ntmps189 rfl rfl ?_
  intro Rb hRb hRn
  refine T_seq ?_
  refine T_region ?_
  refine S_ 2 rfl rfl rfl _ (y_assign rfl rfl) ?_
  refine S_go (fun _ _ h => h) ?_
  refine T_seq ?_
  refine T_region ?_
  refine S_ 3 rfl rfl rfl _ (y_move rfl rfl) ?_
  refine S_ 4 rfl rfl rfl _ (y_bin rfl rfl rfl (fun _ => b_leq)) ?_
  refine S_ 2 rfl rfl rfl _ (y_assign rfl rfl) ?_
  refine S_go (fun _ _ h => h) ?_
  refine T_ret (fun a w hF hM => hRb a w (post1 rfl rfl (fun w hM => ?_) a w hF hM))
  exact ⟨rfl, hM.below⟩
theorem ranges_any (op : Int) (w : World) : Calls Tryz.prog 190 #[.int .i64 op] w fun e w' => e = .returned (.bool (rngB op)) ∧ Below w.heap.size w w' := by
  refine enter_args (args := [.int .i64 op]) (F := _) Tryz.func190 rfl Tryz.ntmps190 rfl rfl ?_
  intro Rb hRb hRn
  refine T_seq ?_
  refine T_region ?_
  refine S_ 2 rfl rfl rfl _ (y_assign rfl rfl) ?_
  refine S_go (fun _ _ h => h) ?_
  refine T_seq ?_
  refine T_region ?_
  refine S_ 3 rfl rfl rfl _ (y_move rfl rfl) ?_
  refine S_ 4 rfl rfl rfl _ (y_bin rfl rfl rfl (fun _ => b_geq)) ?_
  refine S_ 5 rfl rfl rfl _ (y_move rfl rfl) ?_
  refine Sg_ 6 rfl rfl rfl rfl rfl rfl _ (y_move rfl rfl) ?_
  refine Sg_ 7 rfl rfl rfl rfl rfl rfl _ (y_bin rfl rfl rfl (fun _ => b_leq)) ?_
  refine S_ 8 rfl rfl rfl _ (y_and rfl rfl rfl) ?_
  refine S_ 2 rfl rfl rfl _ (y_assign rfl rfl) ?_
  refine S_go (fun _ _ h => h) ?_
  refine T_ret (fun a w hF hM => hRb a w (post1 rfl rfl (fun w hM => ?_) a w hF hM))
  exact ⟨rfl, hM.below⟩
theorem named_any (op : Int) (w : World) : Calls Tryz.prog 191 #[.int .i64 op] w fun e w' => e = .returned (.bool (nmdB op)) ∧ Below w.heap.size w w' := by
  refine enter_args (args := [.int .i64 op]) (F := _) Tryz.func191 rfl Tryz.ntmps191 rfl rfl ?_
  intro Rb hRb hRn
  refine T_seq ?_
  refine T_region ?_
  refine S_ 2 rfl rfl rfl _ (y_assign rfl rfl) ?_
  refine S_go (fun _ _ h => h) ?_
  refine T_seq ?_
  refine T_region ?_
  refine S_ 3 rfl rfl rfl _ (y_move rfl rfl) ?_
  refine S_ 4 rfl rfl rfl _ (y_bin rfl rfl rfl (fun _ => b_eql)) ?_
  refine S_ 5 rfl rfl rfl _ (y_move rfl rfl) ?_
  refine Sg_ 6 rfl rfl rfl rfl rfl rfl _ (y_move rfl rfl) ?_
  refine Sg_ 7 rfl rfl rfl rfl rfl rfl _ (y_bin rfl rfl rfl (fun _ => b_eql)) ?_
  refine S_ 8 rfl rfl rfl _ (y_or rfl rfl rfl) ?_
  refine S_ 2 rfl rfl rfl _ (y_assign rfl rfl) ?_
  refine S_go (fun _ _ h => h) ?_
  refine T_ret (fun a w hF hM => hRb a w (post1 rfl rfl (fun w hM => ?_) a w hF hM))
  exact ⟨rfl, hM.below⟩
theorem worded_any (op : Int) (w : World) : Calls Tryz.prog 192 #[.int .i64 op] w fun e w' => e = .returned (.bool (wrdB op)) ∧ Below w.heap.size w w' := by
  refine enter_args (args := [.int .i64 op]) (F := _) Tryz.func192 rfl Tryz.ntmps192 rfl rfl ?_
  intro Rb hRb hRn
  refine T_seq ?_
  refine T_region ?_
  refine S_ 2 rfl rfl rfl _ (y_assign rfl rfl) ?_
  refine S_go (fun _ _ h => h) ?_
  refine T_seq ?_
  refine T_region ?_
  refine S_ 3 rfl rfl rfl _ (y_move rfl rfl) ?_
  refine S_ 4 rfl rfl rfl _ (y_bin rfl rfl rfl (fun _ => b_eql)) ?_
  refine S_ 5 rfl rfl rfl _ (y_move rfl rfl) ?_
  refine Sg_ 6 rfl rfl rfl rfl rfl rfl _ (y_move rfl rfl) ?_
  refine Sg_ 7 rfl rfl rfl rfl rfl rfl _ (y_bin rfl rfl rfl (fun _ => b_geq)) ?_
  refine S_ 8 rfl rfl rfl _ (y_or rfl rfl rfl) ?_
  refine S_ 2 rfl rfl rfl _ (y_assign rfl rfl) ?_
  refine S_go (fun _ _ h => h) ?_
  refine T_ret (fun a w hF hM => hRb a w (post1 rfl rfl (fun w hM => ?_) a w hF hM))
  exact ⟨rfl, hM.below⟩
theorem fout_any (n lo hi : Int) (w : World) : Calls Tryz.prog 88 #[.int .i64 n, .int .i64 lo, .int .i64 hi] w fun e w' => e = .returned (.bool (!inB n lo hi)) ∧ Below w.heap.size w w' := by
  refine enter_args (args := [.int .i64 n, .int .i64 lo, .int .i64 hi]) (F := _) Tryz.func88 rfl Tryz.ntmps88 rfl rfl ?_
  intro Rb hRb hRn
  refine T_seq ?_
  refine T_region ?_
  refine S_ 6 rfl rfl rfl _ (y_assign rfl rfl) ?_
  refine S_go (fun _ _ h => h) ?_
  refine T_seq ?_
  refine T_region ?_
  refine S_ 7 rfl rfl rfl _ (y_move rfl rfl) ?_
  refine S_ 8 rfl rfl rfl _ (y_move rfl rfl) ?_
  refine S_ 9 rfl rfl rfl _ (y_bin rfl rfl rfl (fun _ => b_lss)) ?_
  refine S_ 10 rfl rfl rfl _ (y_move rfl rfl) ?_
  refine Sg_ 11 rfl rfl rfl rfl rfl rfl _ (y_move rfl rfl) ?_
  refine Sg_ 12 rfl rfl rfl rfl rfl rfl _ (y_move rfl rfl) ?_
  refine Sg_ 13 rfl rfl rfl rfl rfl rfl _ (y_bin rfl rfl rfl (fun _ => b_gtr)) ?_
  refine S_ 14 rfl rfl rfl _ (y_or rfl rfl rfl) ?_
  refine S_ 6 rfl rfl rfl _ (y_assign rfl rfl) ?_
  refine S_go (fun _ _ h => h) ?_
  refine T_ret (fun a w hF hM => hRb a w (post1 rfl rfl (fun w hM => ?_) a w hF hM))
  exact ⟨by rw [inB, Bool.not_not], hM.below⟩
end Go.Proofs.YtfmbgaaonfgenaaGreatDoor
end
