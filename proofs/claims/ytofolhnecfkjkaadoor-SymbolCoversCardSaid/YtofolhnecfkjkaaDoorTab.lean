/- Tables, modules, and the searches in them. Conditions: those of each theorem (a slice lies in memory, its length is a machine's). -/
import Derived.Test.YtofolhnecfkjkaaDoorFrm
namespace Go.Proofs.YtofolhnecfkjkaaDoor
set_option linter.unusedSimpArgs false
set_option linter.unusedVariables false
set_option maxRecDepth 20000
open Go.RowKit Go.Eng

structure SFunc where
  name : List UInt8
  fr : Int
  to : Int
def SFunc.enc (f : SFunc) : List Value := [str f.name, .int .i64 f.fr, .int .i64 f.to]
structure SRow where
  pos : Int
  fi : Int
  ln : Int
def SRow.enc (r : SRow) : List Value := [.int .i64 r.pos, .int .i64 r.fi, .int .i64 r.ln]
structure SCall where
  name : List UInt8
  fr : Int
  to : Int
  fi : Int
  ln : Int
def SCall.enc (c : SCall) : List Value := [str c.name, .int .i64 c.fr, .int .i64 c.to, .int .i64 c.fi, .int .i64 c.ln]
structure SMod where
  name : List UInt8
  id : List UInt8
  fr : Int
  to : Int
def SMod.enc (m : SMod) : List Value := [str m.name, str m.id, .int .i64 m.fr, .int .i64 m.to]
def strEnc (l : List UInt8) : List Value := [str l]
structure Tab where
  id : List UInt8
  size : Int
  fi : Sl (List UInt8)
  fu : Sl SFunc
  ro : Sl SRow
  ca : Sl SCall
def Tab.enc (t : Tab) : List Value := [str t.id, .int .i64 t.size, .slice t.fi.A t.fi.q t.fi.c, .slice t.fu.A t.fu.q t.fu.c, .slice t.ro.A t.ro.q t.ro.c, .slice t.ca.A t.ca.q t.ca.c]
def Tab.val (t : Tab) : Value := .agg t.enc.toArray
structure Tab.Ok (w : World) (t : Tab) : Prop where
  fi : t.fi.Ok strEnc 1 w
  fu : t.fu.Ok SFunc.enc 3 w
  ro : t.ro.Ok SRow.enc 3 w
  ca : t.ca.Ok SCall.enc 5 w
  small : t.id.length ≤ 4611686018427387904 ∧ t.fi.q ≤ 4611686018427387904 ∧ t.fu.q ≤ 4611686018427387904 ∧ t.ro.q ≤ 4611686018427387904 ∧ t.ca.q ≤ 4611686018427387904
  names : (∀ s ∈ t.fi.l, s.length ≤ 4611686018427387904) ∧ (∀ f ∈ t.fu.l, f.name.length ≤ 4611686018427387904) ∧ (∀ f ∈ t.ca.l, f.name.length ≤ 4611686018427387904)
theorem Tab.Ok.below {w w' : World} {t : Tab} (h : t.Ok w) (hb : Below w.heap.size w w') : t.Ok w' := ⟨h.fi.below hb, h.fu.below hb, h.ro.below hb, h.ca.below hb, h.small, h.names⟩

/-- the place of the first that has p, from i on -/
def findI {α : Type} (p : α → Bool) : List α → Int → Int
  | [], _ => -1
  | a :: r, i => if p a = true then i else findI p r (i + 1)
theorem findI_t {α : Type} {p : α → Bool} {a : α} {r : List α} {i : Int} (h : p a = true) : findI p (a :: r) i = i := if_pos h
theorem findI_f {α : Type} {p : α → Bool} {a : α} {r : List α} {i : Int} (h : p a = false) : findI p (a :: r) i = findI p r (i + 1) := if_neg (by simp [h])
theorem findI_any {α : Type} (p : α → Bool) : ∀ (l : List α) (i : Int), 0 ≤ i → decide (0 ≤ findI p l i) = l.any p
  | [], i, _ => rfl
  | a :: r, i, h => by
    cases hp : p a
    · rw [findI_f hp, List.any_cons, hp, Bool.false_or]; exact findI_any p r (i + 1) (by omega)
    · rw [findI_t hp, List.any_cons, hp, Bool.true_or]; simpa using h
/-- what is found: its place, and whether it is -/
def found {α : Type} (p : α → Bool) (l : List α) : Value := .tuple #[.int .i64 (if findI p l 0 < 0 then 0 else findI p l 0), .bool (decide (0 ≤ findI p l 0))]
/-- a function value that answers p at any later time -/
def Asks (P : Program) {α : Type} (enc : α → List Value) (w : World) (g : FuncId) (cap : Array Value) (p : α → Bool) : Prop :=
  (∀ args w', (callFunc g args).run P w' = .ok (.enter g args) w') ∧ ∀ x w', Below w.heap.size w w' → Calls P g (#[.agg (enc x).toArray] ++ cap) w' fun e w'' => e = .returned (.bool (p x)) ∧ Below w'.heap.size w' w''

theorem IndexFuncF_any (A : Option Addr) (q c : Nat) (l : List SFunc) (g : FuncId) (cap : Array Value) (p : SFunc → Bool) (w : World) (hl : SlT SFunc.enc 3 w A q l) (hq : q ≤ 4611686018427387904) (hA : Asks Tryd.prog SFunc.enc w g cap p) :
    Calls Tryd.prog 39 #[.slice A q c, .func (.func g) #[] cap] w fun e w' => e = .returned (.int .i64 (findI p l 0)) ∧ Below w.heap.size w w' := by
  refine enter_args (args := [.slice A q c, .func (.func g) #[] cap]) (F := _) Tryd.func39 rfl Tryd.ntmps39 rfl rfl ?_
  intro Rb hRb hRn
  refine T_seq ?_
  refine T_region ?_
  refine S_ 4 rfl rfl rfl _ (y_assign rfl rfl) ?_
  refine S_go (fun _ _ h => h) ?_
  refine T_seq ?_
  refine T_seq ?_
  refine T_region ?_
  refine S_ 6 rfl rfl rfl _ (y_move rfl rfl) ?_
  refine S_ 7 rfl rfl rfl _ (y_len_slice rfl rfl Tryd.underlying23) ?_
  refine S_ 8 rfl rfl rfl _ (y_move rfl rfl) ?_
  refine S_go (fun _ _ h => h) ?_
  refine T_block ?_
  refine T_loopK1 (kf := [(4, 5), (8, 18)]) (kl := [(4, 5), (8, 18)]) (fun (i : Nat) => [(8, true, .int .i64 (i : Int))]) (fun (i : Nat) => []) (fun (i : Nat) => i ≤ q ∧ findI p l 0 = findI p (l.drop i) i) (fun (i : Nat) => q - i) 0 (by repeat (first | exact kf_nil | (apply kf_in; focus rfl) | (apply kf_out; focus rfl))) (by repeat (first | exact kl_nil | exact kl_rest (by assumption) rfl | (apply kl_in; focus rfl) | (apply kl_out; focus rfl))) ?_ ?_ ?_ ?_
  · exact ⟨by omega, rfl⟩
  · exact ⟨rfl, trivial⟩
  · exact trivial
  rintro i ⟨hp1, hp2⟩
  refine T_seq ?_
  refine T_region ?_
  refine S_ 9 rfl rfl rfl _ (y_bin rfl rfl rfl (fun _ => b_lss)) ?_
  refine S_go (fun _ _ h => h) ?_
  refine T_seq ?_
  refine T_cond rfl (fun h9 => ?_) (fun h9 => ?_)
  · try simp only [decide_eq_true_eq, decide_eq_false_iff_not, Bool.or_eq_true, Bool.or_eq_false_iff, Bool.and_eq_true, Bool.and_eq_false_iff, Bool.not_eq_true', Bool.not_eq_false', Bool.not_eq_true, Bool.not_eq_false, Bool.not_true, Bool.not_false, Int.not_lt, Int.not_le, not_or, not_and, Classical.not_not] at h9
    obtain ⟨x, hx1, hx2⟩ := hl.at (i := i) (by omega)
    refine T_skip_go (fun _ _ h => h) ?_
    refine T_seq ?_
    refine T_block ?_
    refine T_seq ?_
    refine T_region ?_
    refine S_ 10 rfl rfl rfl _ (y_move rfl rfl) ?_
    refine S_ 5 rfl rfl rfl _ (y_assign rfl rfl) ?_
    refine S_go (fun _ _ h => h) ?_
    refine T_seq ?_
    refine T_region ?_
    refine S_ 11 rfl rfl rfl _ (y_move rfl rfl) ?_
    refine S_ 12 rfl rfl rfl _ (y_move rfl rfl) ?_
    refine S_ 13 rfl rfl rfl _ (y_move rfl rfl) ?_
    refine S_ 14 rfl rfl rfl _ (y_indexAddr rfl rfl rfl Tryd.underlying23 sz80 (fun hg => hl.isSome (by omega)) (fun _ => by omega)) ?_
    refine S_ 15 rfl rfl rfl _ (y_loadT rfl rfl hl (fun _ => rfl) (fun _ => hx1) Tryd.underlying80 rfl sz80) ?_
    refine S_ 16 rfl rfl rfl _ (y_call rfl rfl rfl hA.1 (fun _ w hM => hA.2 x w hM.below)) ?_
    refine S_go (fun _ _ h => h) ?_
    refine T_cond rfl (fun h16 => ?_) (fun h16 => ?_)
    · try simp only [decide_eq_true_eq, decide_eq_false_iff_not, Bool.or_eq_true, Bool.or_eq_false_iff, Bool.and_eq_true, Bool.and_eq_false_iff, Bool.not_eq_true', Bool.not_eq_false', Bool.not_eq_true, Bool.not_eq_false, Bool.not_true, Bool.not_false, Int.not_lt, Int.not_le, not_or, not_and, Classical.not_not] at h16
      refine T_seq ?_
      refine T_region ?_
      refine S_ 17 rfl rfl rfl _ (y_move rfl rfl) ?_
      refine S_ 4 rfl rfl rfl _ (y_assign rfl rfl) ?_
      refine S_go (fun _ _ h => h) ?_
      refine T_ret (fun a w hF hM => hRb a w (post1 rfl rfl (fun w hM => ?_) a w hF hM))
      exact ⟨by rw [hp2, hx2, findI_t h16], hM.below⟩
    · try simp only [decide_eq_true_eq, decide_eq_false_iff_not, Bool.or_eq_true, Bool.or_eq_false_iff, Bool.and_eq_true, Bool.and_eq_false_iff, Bool.not_eq_true', Bool.not_eq_false', Bool.not_eq_true, Bool.not_eq_false, Bool.not_true, Bool.not_false, Int.not_lt, Int.not_le, not_or, not_and, Classical.not_not] at h16
      refine T_skip_go (fun _ _ h => h) ?_
      refine T_region ?_
      refine S_ 18 rfl rfl rfl _ (y_bin rfl rfl rfl (fun hg => b_add (by omega))) ?_
      refine S_ 8 rfl rfl rfl _ (y_move rfl rfl) ?_
      refine S_nil (nextK1 (kf := [(4, 5), (8, 18)]) (kl := [(4, 5), (8, 18)]) (i + 1) (by repeat (first | exact kf_nil | (apply kf_in; focus rfl) | (apply kf_out; focus rfl))) (by repeat (first | exact kl_nil | exact kl_rest (by assumption) rfl | (apply kl_in; focus rfl) | (apply kl_out; focus rfl))) ?_ ?_ ?_ ?_)
      · omega
      · exact ⟨by omega, by rw [hp2, hx2, findI_f h16]; rfl⟩
      · exact ⟨rfl, trivial⟩
      · exact trivial
  · try simp only [decide_eq_true_eq, decide_eq_false_iff_not, Bool.or_eq_true, Bool.or_eq_false_iff, Bool.and_eq_true, Bool.and_eq_false_iff, Bool.not_eq_true', Bool.not_eq_false', Bool.not_eq_true, Bool.not_eq_false, Bool.not_true, Bool.not_false, Int.not_lt, Int.not_le, not_or, not_and, Classical.not_not] at h9
    refine T_exit_go (fun _ _ h => h) ?_
    refine T_seq ?_
    refine T_region ?_
    refine S_ 4 rfl rfl rfl _ (y_assign rfl rfl) ?_
    refine S_go (fun _ _ h => h) ?_
    refine T_ret (fun a w hF hM => hRb a w (post1 rfl rfl (fun w hM => ?_) a w hF hM))
    exact ⟨by rw [hp2, hl.end (by omega)]; rfl, hM.below⟩
theorem IndexFuncM_any (A : Option Addr) (q c : Nat) (l : List SMod) (g : FuncId) (cap : Array Value) (p : SMod → Bool) (w : World) (hl : SlT SMod.enc 4 w A q l) (hq : q ≤ 4611686018427387904) (hA : Asks Tryd.prog SMod.enc w g cap p) :
    Calls Tryd.prog 41 #[.slice A q c, .func (.func g) #[] cap] w fun e w' => e = .returned (.int .i64 (findI p l 0)) ∧ Below w.heap.size w w' := by
  refine enter_args (args := [.slice A q c, .func (.func g) #[] cap]) (F := _) Tryd.func41 rfl Tryd.ntmps41 rfl rfl ?_
  intro Rb hRb hRn
  refine T_seq ?_
  refine T_region ?_
  refine S_ 4 rfl rfl rfl _ (y_assign rfl rfl) ?_
  refine S_go (fun _ _ h => h) ?_
  refine T_seq ?_
  refine T_seq ?_
  refine T_region ?_
  refine S_ 6 rfl rfl rfl _ (y_move rfl rfl) ?_
  refine S_ 7 rfl rfl rfl _ (y_len_slice rfl rfl Tryd.underlying28) ?_
  refine S_ 8 rfl rfl rfl _ (y_move rfl rfl) ?_
  refine S_go (fun _ _ h => h) ?_
  refine T_block ?_
  refine T_loopK1 (kf := [(4, 5), (8, 18)]) (kl := [(4, 5), (8, 18)]) (fun (i : Nat) => [(8, true, .int .i64 (i : Int))]) (fun (i : Nat) => []) (fun (i : Nat) => i ≤ q ∧ findI p l 0 = findI p (l.drop i) i) (fun (i : Nat) => q - i) 0 (by repeat (first | exact kf_nil | (apply kf_in; focus rfl) | (apply kf_out; focus rfl))) (by repeat (first | exact kl_nil | exact kl_rest (by assumption) rfl | (apply kl_in; focus rfl) | (apply kl_out; focus rfl))) ?_ ?_ ?_ ?_
  · exact ⟨by omega, rfl⟩
  · exact ⟨rfl, trivial⟩
  · exact trivial
  rintro i ⟨hp1, hp2⟩
  refine T_seq ?_
  refine T_region ?_
  refine S_ 9 rfl rfl rfl _ (y_bin rfl rfl rfl (fun _ => b_lss)) ?_
  refine S_go (fun _ _ h => h) ?_
  refine T_seq ?_
  refine T_cond rfl (fun h9 => ?_) (fun h9 => ?_)
  · try simp only [decide_eq_true_eq, decide_eq_false_iff_not, Bool.or_eq_true, Bool.or_eq_false_iff, Bool.and_eq_true, Bool.and_eq_false_iff, Bool.not_eq_true', Bool.not_eq_false', Bool.not_eq_true, Bool.not_eq_false, Bool.not_true, Bool.not_false, Int.not_lt, Int.not_le, not_or, not_and, Classical.not_not] at h9
    obtain ⟨x, hx1, hx2⟩ := hl.at (i := i) (by omega)
    refine T_skip_go (fun _ _ h => h) ?_
    refine T_seq ?_
    refine T_block ?_
    refine T_seq ?_
    refine T_region ?_
    refine S_ 10 rfl rfl rfl _ (y_move rfl rfl) ?_
    refine S_ 5 rfl rfl rfl _ (y_assign rfl rfl) ?_
    refine S_go (fun _ _ h => h) ?_
    refine T_seq ?_
    refine T_region ?_
    refine S_ 11 rfl rfl rfl _ (y_move rfl rfl) ?_
    refine S_ 12 rfl rfl rfl _ (y_move rfl rfl) ?_
    refine S_ 13 rfl rfl rfl _ (y_move rfl rfl) ?_
    refine S_ 14 rfl rfl rfl _ (y_indexAddr rfl rfl rfl Tryd.underlying28 sz86 (fun hg => hl.isSome (by omega)) (fun _ => by omega)) ?_
    refine S_ 15 rfl rfl rfl _ (y_loadT rfl rfl hl (fun _ => rfl) (fun _ => hx1) Tryd.underlying86 rfl sz86) ?_
    refine S_ 16 rfl rfl rfl _ (y_call rfl rfl rfl hA.1 (fun _ w hM => hA.2 x w hM.below)) ?_
    refine S_go (fun _ _ h => h) ?_
    refine T_cond rfl (fun h16 => ?_) (fun h16 => ?_)
    · try simp only [decide_eq_true_eq, decide_eq_false_iff_not, Bool.or_eq_true, Bool.or_eq_false_iff, Bool.and_eq_true, Bool.and_eq_false_iff, Bool.not_eq_true', Bool.not_eq_false', Bool.not_eq_true, Bool.not_eq_false, Bool.not_true, Bool.not_false, Int.not_lt, Int.not_le, not_or, not_and, Classical.not_not] at h16
      refine T_seq ?_
      refine T_region ?_
      refine S_ 17 rfl rfl rfl _ (y_move rfl rfl) ?_
      refine S_ 4 rfl rfl rfl _ (y_assign rfl rfl) ?_
      refine S_go (fun _ _ h => h) ?_
      refine T_ret (fun a w hF hM => hRb a w (post1 rfl rfl (fun w hM => ?_) a w hF hM))
      exact ⟨by rw [hp2, hx2, findI_t h16], hM.below⟩
    · try simp only [decide_eq_true_eq, decide_eq_false_iff_not, Bool.or_eq_true, Bool.or_eq_false_iff, Bool.and_eq_true, Bool.and_eq_false_iff, Bool.not_eq_true', Bool.not_eq_false', Bool.not_eq_true, Bool.not_eq_false, Bool.not_true, Bool.not_false, Int.not_lt, Int.not_le, not_or, not_and, Classical.not_not] at h16
      refine T_skip_go (fun _ _ h => h) ?_
      refine T_region ?_
      refine S_ 18 rfl rfl rfl _ (y_bin rfl rfl rfl (fun hg => b_add (by omega))) ?_
      refine S_ 8 rfl rfl rfl _ (y_move rfl rfl) ?_
      refine S_nil (nextK1 (kf := [(4, 5), (8, 18)]) (kl := [(4, 5), (8, 18)]) (i + 1) (by repeat (first | exact kf_nil | (apply kf_in; focus rfl) | (apply kf_out; focus rfl))) (by repeat (first | exact kl_nil | exact kl_rest (by assumption) rfl | (apply kl_in; focus rfl) | (apply kl_out; focus rfl))) ?_ ?_ ?_ ?_)
      · omega
      · exact ⟨by omega, by rw [hp2, hx2, findI_f h16]; rfl⟩
      · exact ⟨rfl, trivial⟩
      · exact trivial
  · try simp only [decide_eq_true_eq, decide_eq_false_iff_not, Bool.or_eq_true, Bool.or_eq_false_iff, Bool.and_eq_true, Bool.and_eq_false_iff, Bool.not_eq_true', Bool.not_eq_false', Bool.not_eq_true, Bool.not_eq_false, Bool.not_true, Bool.not_false, Int.not_lt, Int.not_le, not_or, not_and, Classical.not_not] at h9
    refine T_exit_go (fun _ _ h => h) ?_
    refine T_seq ?_
    refine T_region ?_
    refine S_ 4 rfl rfl rfl _ (y_assign rfl rfl) ?_
    refine S_go (fun _ _ h => h) ?_
    refine T_ret (fun a w hF hM => hRb a w (post1 rfl rfl (fun w hM => ?_) a w hF hM))
    exact ⟨by rw [hp2, hl.end (by omega)]; rfl, hM.below⟩
theorem FuncAt1_any (f : SFunc) (ad : Addr) (x : Int) (w : World) (hb : ad.block < w.heap.size) (hc : w.cell? ad = some (.int .i64 x)) :
    Calls Tryd.prog 40 #[.agg f.enc.toArray, .pointer (some ad)] w fun e w' => e = .returned (.bool (decide (f.fr ≤ x) && decide (x < f.to))) ∧ Below w.heap.size w w' := by
  refine enter_args (args := [.agg #[str f.name, .int .i64 f.fr, .int .i64 f.to], .pointer (some ad)]) (F := _) Tryd.func40 rfl Tryd.ntmps40 rfl rfl ?_
  intro Rb hRb hRn
  refine T_seq ?_
  refine T_region ?_
  refine S_box 2 2 rfl rfl rfl rfl rfl ?_
  intro b2
  refine S_ 3 rfl rfl rfl _ (y_assign rfl rfl) ?_
  refine S_go (fun _ _ h => h) ?_
  refine T_seq ?_
  refine T_region ?_
  refine S_ 4 rfl rfl rfl _ (y_fieldAddr rfl rfl fa80_1) ?_
  refine S_ 5 rfl rfl rfl _ (y_load 2 rfl rfl rfl rfl Tryd.underlying3 rfl) ?_
  refine S_ 6 rfl rfl rfl _ (y_load_far rfl rfl hc hb Tryd.underlying3 rfl) ?_
  refine S_ 7 rfl rfl rfl _ (y_bin rfl rfl rfl (fun _ => b_leq)) ?_
  refine S_ 8 rfl rfl rfl _ (y_move rfl rfl) ?_
  refine Sg_ 9 rfl rfl rfl rfl rfl rfl _ (y_load_far rfl rfl hc hb Tryd.underlying3 rfl) ?_
  refine Sg_ 10 rfl rfl rfl rfl rfl rfl _ (y_fieldAddr rfl rfl fa80_2) ?_
  refine Sg_ 11 rfl rfl rfl rfl rfl rfl _ (y_load 2 rfl rfl rfl rfl Tryd.underlying3 rfl) ?_
  refine Sg_ 12 rfl rfl rfl rfl rfl rfl _ (y_bin rfl rfl rfl (fun _ => b_lss)) ?_
  refine S_ 13 rfl rfl rfl _ (y_and rfl rfl rfl) ?_
  refine S_ 3 rfl rfl rfl _ (y_assign rfl rfl) ?_
  refine S_go (fun _ _ h => h) ?_
  refine T_ret (fun a w hF hM => hRb a w (post1 rfl rfl (fun w hM => ?_) a w hF hM))
  exact ⟨rfl, hM.below⟩
theorem ModuleAt1_any (f : SMod) (ad : Addr) (x : Int) (w : World) (hb : ad.block < w.heap.size) (hc : w.cell? ad = some (.int .i64 x)) :
    Calls Tryd.prog 42 #[.agg f.enc.toArray, .pointer (some ad)] w fun e w' => e = .returned (.bool (decide (f.fr ≤ x) && decide (x < f.to))) ∧ Below w.heap.size w w' := by
  refine enter_args (args := [.agg #[str f.name, str f.id, .int .i64 f.fr, .int .i64 f.to], .pointer (some ad)]) (F := _) Tryd.func42 rfl Tryd.ntmps42 rfl rfl ?_
  intro Rb hRb hRn
  refine T_seq ?_
  refine T_region ?_
  refine S_box 2 2 rfl rfl rfl rfl rfl ?_
  intro b2
  refine S_ 3 rfl rfl rfl _ (y_assign rfl rfl) ?_
  refine S_go (fun _ _ h => h) ?_
  refine T_seq ?_
  refine T_region ?_
  refine S_ 4 rfl rfl rfl _ (y_fieldAddr rfl rfl fa86_2) ?_
  refine S_ 5 rfl rfl rfl _ (y_load 2 rfl rfl rfl rfl Tryd.underlying3 rfl) ?_
  refine S_ 6 rfl rfl rfl _ (y_load_far rfl rfl hc hb Tryd.underlying3 rfl) ?_
  refine S_ 7 rfl rfl rfl _ (y_bin rfl rfl rfl (fun _ => b_leq)) ?_
  refine S_ 8 rfl rfl rfl _ (y_move rfl rfl) ?_
  refine Sg_ 9 rfl rfl rfl rfl rfl rfl _ (y_load_far rfl rfl hc hb Tryd.underlying3 rfl) ?_
  refine Sg_ 10 rfl rfl rfl rfl rfl rfl _ (y_fieldAddr rfl rfl fa86_3) ?_
  refine Sg_ 11 rfl rfl rfl rfl rfl rfl _ (y_load 2 rfl rfl rfl rfl Tryd.underlying3 rfl) ?_
  refine Sg_ 12 rfl rfl rfl rfl rfl rfl _ (y_bin rfl rfl rfl (fun _ => b_lss)) ?_
  refine S_ 13 rfl rfl rfl _ (y_and rfl rfl rfl) ?_
  refine S_ 3 rfl rfl rfl _ (y_assign rfl rfl) ?_
  refine S_go (fun _ _ h => h) ?_
  refine T_ret (fun a w hF hM => hRb a w (post1 rfl rfl (fun w hM => ?_) a w hF hM))
  exact ⟨rfl, hM.below⟩
def SFunc.has (x : Int) (f : SFunc) : Bool := decide (f.fr ≤ x) && decide (x < f.to)
def SMod.has (x : Int) (f : SMod) : Bool := decide (f.fr ≤ x) && decide (x < f.to)
theorem asks_FuncAt {b : Nat} {x : Int} {w : World} (h : w.cell? ⟨b, 0, none⟩ = some (.int .i64 x) ∧ b < w.heap.size) : Asks Tryd.prog SFunc.enc w 40 #[.pointer (some ⟨b, 0, none⟩)] (SFunc.has x) :=
  ⟨cf40, fun f w' hb => FuncAt1_any f ⟨b, 0, none⟩ x w' (Nat.lt_of_lt_of_le h.2 hb.size) ((hb.cell h.2).trans h.1)⟩
theorem asks_ModuleAt {b : Nat} {x : Int} {w : World} (h : w.cell? ⟨b, 0, none⟩ = some (.int .i64 x) ∧ b < w.heap.size) : Asks Tryd.prog SMod.enc w 42 #[.pointer (some ⟨b, 0, none⟩)] (SMod.has x) :=
  ⟨cf42, fun f w' hb => ModuleAt1_any f ⟨b, 0, none⟩ x w' (Nat.lt_of_lt_of_le h.2 hb.size) ((hb.cell h.2).trans h.1)⟩
end Go.Proofs.YtofolhnecfkjkaaDoor
