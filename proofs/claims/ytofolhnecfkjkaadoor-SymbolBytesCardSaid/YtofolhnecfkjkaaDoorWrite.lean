/- symbol.Write and the reference's TableBytes make the same bytes of a right table. Conditions: those of each theorem. -/
import Derived.Test.YtofolhnecfkjkaaDoorBytesP
import Derived.Test.YtofolhnecfkjkaaDoorBldC
import Derived.Test.YtofolhnecfkjkaaDoorTail
namespace Go.Proofs.YtofolhnecfkjkaaDoor
set_option linter.unusedSimpArgs false
set_option linter.unusedVariables false
set_option maxRecDepth 20000
open Go.RowKit Go.Eng
theorem word_any (s : List UInt8) (hs : s.length ≤ 1000000) (w : World) :
    Calls Tryd.prog 66 #[str s] w fun e w' => e = .returned (str (wordB s)) ∧ Below w.heap.size w w' := by
  have hd := digI_le (n := s.length) (by omega)
  refine enter_args (args := [str s]) (F := _) Tryd.func66 rfl Tryd.ntmps66 rfl rfl ?_
  intro Rb hRb hRn
  refine T_seq ?_
  refine T_region ?_
  refine S_ 2 rfl rfl rfl _ (y_assign rfl rfl) ?_
  refine S_go (fun _ _ h => h) ?_
  refine T_seq ?_
  refine T_region ?_
  refine S_ 3 rfl rfl rfl _ (y_move rfl rfl) ?_
  refine S_ 4 rfl rfl rfl _ (y_len_str rfl rfl Tryd.underlying9) ?_
  refine S_ 5 rfl rfl rfl _ (y_call rfl rfl rfl cf65 (fun _ w _ => digits_any _ (by omega) (by omega) w)) ?_
  refine S_ 6 rfl rfl rfl _ (y_move rfl rfl) ?_
  refine S_ 7 rfl rfl rfl _ (y_bin rfl rfl rfl (fun hg => b_adds (by first | omega | (simp only [List.length_append, List.length_cons, List.length_nil]; omega)))) ?_
  refine S_ 2 rfl rfl rfl _ (y_assign rfl rfl) ?_
  refine S_go (fun _ _ h => h) ?_
  refine T_ret (fun a w hF hM => hRb a w (post1 rfl rfl (fun w hM => ?_) a w hF hM))
  exact ⟨rfl, hM.below⟩
theorem signed_any (d : Int) (hd : -2305843009213693952 < d ∧ d < 2305843009213693952) (w : World) :
    Calls Tryd.prog 67 #[.int .i64 d] w fun e w' => e = .returned (str (signB d)) ∧ Below w.heap.size w w' := by
  refine enter_args (args := [.int .i64 d]) (F := _) Tryd.func67 rfl Tryd.ntmps67 rfl rfl ?_
  intro Rb hRb hRn
  refine T_seq ?_
  refine T_region ?_
  refine S_ 2 rfl rfl rfl _ (y_assign rfl rfl) ?_
  refine S_go (fun _ _ h => h) ?_
  refine T_seq ?_
  refine T_seq ?_
  refine T_region ?_
  refine S_ 3 rfl rfl rfl _ (y_move rfl rfl) ?_
  refine S_ 4 rfl rfl rfl _ (y_bin rfl rfl rfl (fun _ => b_lss)) ?_
  refine S_go (fun _ _ h => h) ?_
  refine T_cond rfl (fun h4 => ?_) (fun h4 => ?_)
  · try simp only [decide_eq_true_eq, decide_eq_false_iff_not, Bool.or_eq_true, Bool.or_eq_false_iff, Bool.and_eq_true, Bool.and_eq_false_iff, Bool.not_eq_true', Bool.not_eq_false', Bool.not_eq_true, Bool.not_eq_false, Bool.not_true, Bool.not_false, Int.not_lt, Int.not_le, not_or, not_and, Classical.not_not] at h4
    refine T_seq ?_
    refine T_region ?_
    refine S_ 5 rfl rfl rfl _ (y_move rfl rfl) ?_
    refine S_ 6 rfl rfl rfl _ (y_bin rfl rfl rfl (fun hg => b_mul (by omega))) ?_
    refine S_ 7 rfl rfl rfl _ (y_bin rfl rfl rfl (fun hg => b_sub (by omega))) ?_
    refine S_ 8 rfl rfl rfl _ (y_call rfl rfl rfl cf65 (fun _ w _ => digits_any _ (by omega) (by omega) w)) ?_
    refine S_ 2 rfl rfl rfl _ (y_assign rfl rfl) ?_
    refine S_go (fun _ _ h => h) ?_
    refine T_ret (fun a w hF hM => hRb a w (post1 rfl rfl (fun w hM => ?_) a w hF hM))
    exact ⟨by rw [signB, if_pos (by omega)], hM.below⟩
  · try simp only [decide_eq_true_eq, decide_eq_false_iff_not, Bool.or_eq_true, Bool.or_eq_false_iff, Bool.and_eq_true, Bool.and_eq_false_iff, Bool.not_eq_true', Bool.not_eq_false', Bool.not_eq_true, Bool.not_eq_false, Bool.not_true, Bool.not_false, Int.not_lt, Int.not_le, not_or, not_and, Classical.not_not] at h4
    refine T_skip_go (fun _ _ h => h) ?_
    refine T_seq ?_
    refine T_region ?_
    refine S_ 9 rfl rfl rfl _ (y_move rfl rfl) ?_
    refine S_ 10 rfl rfl rfl _ (y_bin rfl rfl rfl (fun hg => b_mul (by omega))) ?_
    refine S_ 11 rfl rfl rfl _ (y_call rfl rfl rfl cf65 (fun _ w _ => digits_any _ (by omega) (by omega) w)) ?_
    refine S_ 2 rfl rfl rfl _ (y_assign rfl rfl) ?_
    refine S_go (fun _ _ h => h) ?_
    refine T_ret (fun a w hF hM => hRb a w (post1 rfl rfl (fun w hM => ?_) a w hF hM))
    exact ⟨by rw [signB, if_neg (by omega)], hM.below⟩
theorem rsigned_any (d : Int) (hd : -2305843009213693952 < d ∧ d < 2305843009213693952) (w : World) :
    Calls Tryd.prog 63 #[.int .i64 d] w fun e w' => e = .returned (str (signB d)) ∧ Below w.heap.size w w' := by
  refine enter_args (args := [.int .i64 d]) (F := _) Tryd.func63 rfl Tryd.ntmps63 rfl rfl ?_
  intro Rb hRb hRn
  refine T_seq ?_
  refine T_region ?_
  refine S_ 2 rfl rfl rfl _ (y_assign rfl rfl) ?_
  refine S_go (fun _ _ h => h) ?_
  refine T_seq ?_
  refine T_seq ?_
  refine T_region ?_
  refine S_ 3 rfl rfl rfl _ (y_move rfl rfl) ?_
  refine S_ 4 rfl rfl rfl _ (y_bin rfl rfl rfl (fun _ => b_lss)) ?_
  refine S_go (fun _ _ h => h) ?_
  refine T_cond rfl (fun h4 => ?_) (fun h4 => ?_)
  · try simp only [decide_eq_true_eq, decide_eq_false_iff_not, Bool.or_eq_true, Bool.or_eq_false_iff, Bool.and_eq_true, Bool.and_eq_false_iff, Bool.not_eq_true', Bool.not_eq_false', Bool.not_eq_true, Bool.not_eq_false, Bool.not_true, Bool.not_false, Int.not_lt, Int.not_le, not_or, not_and, Classical.not_not] at h4
    refine T_seq ?_
    refine T_region ?_
    refine S_ 5 rfl rfl rfl _ (y_move rfl rfl) ?_
    refine S_ 6 rfl rfl rfl _ (y_bin rfl rfl rfl (fun hg => b_mul (by omega))) ?_
    refine S_ 7 rfl rfl rfl _ (y_bin rfl rfl rfl (fun hg => b_sub (by omega))) ?_
    refine S_ 8 rfl rfl rfl _ (y_call rfl rfl rfl cf62 (fun _ w _ => number_any _ (by omega) (by omega) w)) ?_
    refine S_ 2 rfl rfl rfl _ (y_assign rfl rfl) ?_
    refine S_go (fun _ _ h => h) ?_
    refine T_ret (fun a w hF hM => hRb a w (post1 rfl rfl (fun w hM => ?_) a w hF hM))
    exact ⟨by rw [signB, if_pos (by omega)], hM.below⟩
  · try simp only [decide_eq_true_eq, decide_eq_false_iff_not, Bool.or_eq_true, Bool.or_eq_false_iff, Bool.and_eq_true, Bool.and_eq_false_iff, Bool.not_eq_true', Bool.not_eq_false', Bool.not_eq_true, Bool.not_eq_false, Bool.not_true, Bool.not_false, Int.not_lt, Int.not_le, not_or, not_and, Classical.not_not] at h4
    refine T_skip_go (fun _ _ h => h) ?_
    refine T_seq ?_
    refine T_region ?_
    refine S_ 9 rfl rfl rfl _ (y_move rfl rfl) ?_
    refine S_ 10 rfl rfl rfl _ (y_bin rfl rfl rfl (fun hg => b_mul (by omega))) ?_
    refine S_ 11 rfl rfl rfl _ (y_call rfl rfl rfl cf62 (fun _ w _ => number_any _ (by omega) (by omega) w)) ?_
    refine S_ 2 rfl rfl rfl _ (y_assign rfl rfl) ?_
    refine S_go (fun _ _ h => h) ?_
    refine T_ret (fun a w hF hM => hRb a w (post1 rfl rfl (fun w hM => ?_) a w hF hM))
    exact ⟨by rw [signB, if_neg (by omega)], hM.below⟩
theorem funcB_le {last : Int} {f : SFunc} (h : f.name.length ≤ 200) (h0 : 0 ≤ last) (h1 : f.to ≤ 4294967296) (h2 : 0 ≤ f.fr) (h3 : f.fr ≤ 4294967296) : (funcB last f).length ≤ 300 := by
  have e1 := digI_le (n := f.fr - last) (by omega)
  have e2 := digI_le (n := f.to - f.fr) (by omega)
  have e3 := wordB_le h (by omega)
  simp only [funcB, List.length_append]; omega
theorem rowB_le {b r : SRow} (h : 0 ≤ b.pos ∧ b.pos ≤ 4294967296 ∧ -1 ≤ b.fi ∧ b.fi ≤ 200 ∧ 0 ≤ b.ln ∧ b.ln ≤ 9999999) (h' : 0 ≤ r.pos ∧ r.pos ≤ 4294967296 ∧ -1 ≤ r.fi ∧ r.fi ≤ 200 ∧ 0 ≤ r.ln ∧ r.ln ≤ 9999999) : (rowB b r).length ≤ 300 := by
  have e1 := digI_le (n := r.pos - b.pos) (by omega)
  have e2 := signB_le (d := r.fi - b.fi) (by omega)
  have e3 := signB_le (d := r.ln - b.ln) (by omega)
  simp only [rowB, List.length_append]; omega
theorem callB_le {last : Int} {c : SCall} (h : c.name.length ≤ 200) (h0 : 0 ≤ last) (h1 : 0 ≤ c.fr ∧ c.fr < c.to ∧ c.to ≤ 4294967296 ∧ 0 ≤ c.fi ∧ c.fi ≤ 200 ∧ 1 ≤ c.ln ∧ c.ln ≤ 9999999) : (callB last c).length ≤ 300 := by
  have e1 := digI_le (n := c.fr - last) (by omega)
  have e2 := digI_le (n := c.to - c.fr) (by omega)
  have e4 := digI_le (n := c.fi) (by omega)
  have e5 := digI_le (n := c.ln) (by omega)
  have e3 := wordB_le h (by omega)
  simp only [callB, List.length_append]; omega
theorem headB_le {t : Tab} (h : idOk t.id = true) (h1 : t.size ≤ 4294967296) (h2 : t.fi.q ≤ 200) : (headB t).length ≤ 38 ∧ 4 ≤ (headB t).length := by
  have hid : (t.id.length : Int) = 16 := by simp only [idOk, Bool.and_eq_true, decide_eq_true_eq] at h; exact h.1
  have e1 := digI_le (n := t.size) (by omega)
  have e2 := digI_le (n := t.fi.q) (by omega)
  simp only [headB, magic, List.length_append, List.length_cons, List.length_nil]; omega
/-- the parts of the bytes, one behind the other -/
def pB1 (t : Tab) : List UInt8 := headB t ++ filesB t.fi.l
def pB2 (t : Tab) : List UInt8 := pB1 t ++ dig128 (t.fu.q : Int).toNat
def pB3 (t : Tab) : List UInt8 := pB2 t ++ funcsB t.fu.l 0
def pB4 (t : Tab) : List UInt8 := pB3 t ++ dig128 (t.ro.q : Int).toNat
def pB5 (t : Tab) : List UInt8 := pB4 t ++ rowsB t.ro.l rowZ
def pB6 (t : Tab) : List UInt8 := pB5 t ++ dig128 (t.ca.q : Int).toNat
theorem tabB_parts (t : Tab) : tabB t = pB6 t ++ callsB t.ca.l 0 := rfl
/-- what all walks on a right table use -/
structure RightT (t : Tab) : Prop where
  size : 1 ≤ t.size ∧ t.size ≤ 4294967296
  qs : t.fi.q ≤ 200 ∧ t.fu.q ≤ 1000 ∧ t.ro.q ≤ 5000 ∧ t.ca.q ≤ 1000
  head : (headB t).length ≤ 38 ∧ 4 ≤ (headB t).length
  files : ∀ s ∈ t.fi.l, s.length ≤ 200
  funcs : ∀ (i : Nat) (f : SFunc), t.fu.l[i]? = some f → f.name.length ≤ 200 ∧ 0 ≤ f.fr ∧ f.fr < f.to ∧ f.to ≤ t.size
  rise : ∀ (i : Nat) (f g : SFunc), t.fu.l[i]? = some f → t.fu.l[i + 1]? = some g → f.to ≤ g.fr
  rows : ∀ (i : Nat) (r : SRow), t.ro.l[i]? = some r → 0 ≤ r.pos ∧ r.pos < t.size ∧ -1 ≤ r.fi ∧ r.fi ≤ 199 ∧ 0 ≤ r.ln ∧ r.ln ≤ 9999999
  rrise : Rising t.ro.l
  calls : ∀ (i : Nat) (c : SCall), t.ca.l[i]? = some c → c.name.length ≤ 200 ∧ 0 ≤ c.fr ∧ c.fr < c.to ∧ c.to ≤ t.size ∧ 0 ≤ c.fi ∧ c.fi ≤ 199 ∧ 1 ≤ c.ln ∧ c.ln ≤ 9999999
  crise : ∀ (i : Nat) (c g : SCall), t.ca.l[i]? = some c → t.ca.l[i + 1]? = some g → c.fr ≤ g.fr
theorem rightT {t : Tab} (h : tabNo t = 0) : RightT t := by
  have hr := rows_of h
  have hs := size_of_out hr.1.2
  have hp := tab_parts h
  have hf := funcs_right _ _ hp.2
  have hro := rows_right _ _ (tab_rows h)
  have hca := calls_right _ _ _ (tab_calls h)
  have hcr := calls_rise _ _ _ (tab_calls h)
  refine ⟨hs, hr.2, headB_le hr.1.1 hs.2 hr.2.1, files_len _ _ hp.1, fun i f hi => ?_, fun i f g hi hg => (hf i f hi).2.2.2 g hg, fun i r hi => ?_, hro.2, fun i c hi => ?_, fun i c g hi hg => (hcr i c hi).2 g hg⟩
  · obtain ⟨x1, x2, _⟩ := hf i f hi
    have := span_in x2
    exact ⟨name_len x1, by omega, by omega, by omega⟩
  · have := row_in (hro.1 i r hi).1
    have := hr.2.1
    omega
  · obtain ⟨x1, x2, _⟩ := hca i c hi
    have := call_in x2
    have := hr.2.1
    exact ⟨name_len x1, by omega, by omega, by omega, by omega, by omega, by omega, by omega⟩
def writeNo (t : Tab) : Int := fst (tabNo t) (if (1000000 : Int) < (tabB t).length then 4 else 0)
def writeS (t : Tab) : List UInt8 := if writeNo t = 0 then tabB t else []
theorem Write_any (t : Tab) (w : World) (hok : t.Ok w) :
    Calls Tryd.prog 22 #[.agg #[str t.id, .int .i64 t.size, .slice t.fi.A t.fi.q t.fi.c, .slice t.fu.A t.fu.q t.fu.c, .slice t.ro.A t.ro.q t.ro.c, .slice t.ca.A t.ca.q t.ca.c]] w fun e w' => e = .returned (.tuple #[str (writeS t), .int .i64 (writeNo t)]) ∧ Below w.heap.size w w' := by
  have hq := hok.small
  refine enter_args (args := [.agg #[str t.id, .int .i64 t.size, .slice t.fi.A t.fi.q t.fi.c, .slice t.fu.A t.fu.q t.fu.c, .slice t.ro.A t.ro.q t.ro.c, .slice t.ca.A t.ca.q t.ca.c]]) (F := _) Tryd.func22 rfl Tryd.ntmps22 rfl rfl ?_
  intro Rb hRb hRn
  refine T_seq ?_
  refine T_region ?_
  refine S_box 1 1 rfl rfl rfl rfl rfl ?_
  intro b1
  refine S_ 2 rfl rfl rfl _ (y_assign rfl rfl) ?_
  refine S_ 3 rfl rfl rfl _ (y_assign rfl rfl) ?_
  refine S_go (fun _ _ h => h) ?_
  refine T_seq ?_
  refine T_seq ?_
  refine T_region ?_
  refine S_ 16 rfl rfl rfl _ (y_loadA 1 rfl rfl rfl Tryd.underlying27 rfl sz27) ?_
  refine S_ 17 rfl rfl rfl _ (y_call rfl rfl rfl cf13 (fun _ w hM => CheckTable_any t w (hok.below hM.below))) ?_
  refine S_ 4 rfl rfl rfl _ (y_assign rfl rfl) ?_
  refine S_go (fun _ _ h => h) ?_
  refine T_seq ?_
  refine T_region ?_
  refine S_ 18 rfl rfl rfl _ (y_move rfl rfl) ?_
  refine S_ 19 rfl rfl rfl _ (y_bin rfl rfl rfl (fun _ => b_neq)) ?_
  refine S_go (fun _ _ h => h) ?_
  refine T_cond rfl (fun h19 => ?_) (fun h19 => ?_)
  · try simp only [decide_eq_true_eq, decide_eq_false_iff_not, Bool.or_eq_true, Bool.or_eq_false_iff, Bool.and_eq_true, Bool.and_eq_false_iff, Bool.not_eq_true', Bool.not_eq_false', Bool.not_eq_true, Bool.not_eq_false, Bool.not_true, Bool.not_false, Int.not_lt, Int.not_le, not_or, not_and, Classical.not_not] at h19
    refine T_seq ?_
    refine T_region ?_
    refine S_ 20 rfl rfl rfl _ (y_move rfl rfl) ?_
    refine S_ 2 rfl rfl rfl _ (y_assign rfl rfl) ?_
    refine S_ 3 rfl rfl rfl _ (y_assign rfl rfl) ?_
    refine S_go (fun _ _ h => h) ?_
    refine T_ret (fun a w hF hM => hRb a w (post2 rfl rfl rfl (fun w hM => ?_) a w hF hM))
    have e : writeNo t = tabNo t := fst_a rfl h19
    have e2 : writeS t = [] := if_neg (by rw [e]; exact h19)
    exact ⟨by rw [e, e2], hM.below⟩
  · try simp only [decide_eq_true_eq, decide_eq_false_iff_not, Bool.or_eq_true, Bool.or_eq_false_iff, Bool.and_eq_true, Bool.and_eq_false_iff, Bool.not_eq_true', Bool.not_eq_false', Bool.not_eq_true, Bool.not_eq_false, Bool.not_true, Bool.not_false, Int.not_lt, Int.not_le, not_or, not_and, Classical.not_not] at h19
    have hR := rightT h19
    have hs := hR.size
    have hqs := hR.qs
    have hhead := hR.head
    have hdz := digI_le (n := t.size) (by omega)
    have hdf := digI_le (n := t.fi.q) (by omega)
    have hid : t.id.length ≤ 38 := by have := hhead.1; simp only [headB, List.length_append] at this; omega
    have hmag : magic.length = 4 := rfl
    refine T_skip_go (fun _ _ h => h) ?_
    refine T_seq ?_
    refine T_region ?_
    refine S_alloc 5 5 rfl rfl rfl rfl z102 ?_
    intro b5
    refine S_nilSlice 900 (e := 5) (size := 1) ?_
    refine S_go (fun _ _ h => h) ?_
    refine T_seq ?_
    refine T_drawsTail 12 (by kernel_rfl) (by kernel_rfl) ?_
    refine D_ 21 rfl rfl rfl _ (y_fieldAddr rfl rfl fa27_0) ?_
    refine D_ 22 rfl rfl rfl _ (y_load 1 rfl rfl rfl rfl Tryd.underlying9 rfl) ?_
    refine D_ 23 rfl rfl rfl _ (y_bin rfl rfl rfl (fun hg => b_adds (by first | omega | (simp only [List.length_append, List.length_cons, List.length_nil]; omega)))) ?_
    refine D_ 24 rfl rfl rfl _ (y_fieldAddr rfl rfl fa27_1) ?_
    refine D_ 25 rfl rfl rfl _ (y_load 1 rfl rfl rfl rfl Tryd.underlying3 rfl) ?_
    refine D_ 26 rfl rfl rfl _ (y_call rfl rfl rfl cf65 (fun _ w _ => digits_any _ (by omega) (by omega) w)) ?_
    refine D_ 27 rfl rfl rfl _ (y_bin rfl rfl rfl (fun hg => b_adds (by first | omega | (simp only [List.length_append, List.length_cons, List.length_nil]; omega)))) ?_
    refine D_ 28 rfl rfl rfl _ (y_fieldAddr rfl rfl fa27_2) ?_
    refine D_ 29 rfl rfl rfl _ (y_load 1 rfl rfl rfl rfl Tryd.underlying22 rfl) ?_
    refine D_ 30 rfl rfl rfl _ (y_len_slice rfl rfl Tryd.underlying22) ?_
    refine D_ 31 rfl rfl rfl _ (y_call rfl rfl rfl cf65 (fun _ w _ => digits_any _ (by omega) (by omega) w)) ?_
    refine D_ 32 rfl rfl rfl _ (y_bin rfl rfl rfl (fun hg => b_adds (by first | omega | (simp only [List.length_append, List.length_cons, List.length_nil]; omega)))) ?_
    refine D_tail ?_
    refine S_callM 33 [(0, 5), (1, 900)] (X := Option Addr × Nat) rfl rfl rfl rfl rfl rfl rfl cf61 rfl (fun _ => .tuple #[.int .i64 (headB t).length, .nilIface]) (fun _ => True) (fun z0 => [(0, bB b5 (selfP b5) z0.1 z0.2 ([] ++ headB t)), (1, bR z0.1 z0.2 ([] ++ headB t))]) (fun _ => rfl) (fun _ => rfl) (fun K1 hK1 w hM => (WStr_any hK1 b5 _ _ _ ([]) (headB t) (.inl rfl) (by simp only [List.length_nil]; omega) w hM).mono fun e w1 h => h.elim fun x h => ⟨x, h.1, trivial, h.2.2⟩) ?_
    intro x33 hx33
    refine S_go (fun _ _ h => h) ?_
    refine T_seq ?_
    refine T_seq ?_
    refine T_region ?_
    refine S_ 34 rfl rfl rfl _ (y_fieldAddr rfl rfl fa27_2) ?_
    refine S_ 35 rfl rfl rfl _ (y_load 1 rfl rfl rfl rfl Tryd.underlying22 rfl) ?_
    refine S_ 36 rfl rfl rfl _ (y_len_slice rfl rfl Tryd.underlying22) ?_
    refine S_ 37 rfl rfl rfl _ (y_move rfl rfl) ?_
    refine S_go (fun _ _ h => h) ?_
    refine T_block ?_
    refine T_loopK4 (kf := [(7, 7), (37, 44)]) (kl := [(5, 5), (7, 7), (37, 44), (900, 900)]) (fun (i : Nat) (l : List UInt8) (A : Option Addr) (c : Nat) => [(37, true, .int .i64 (i : Int))]) (fun (i : Nat) (l : List UInt8) (A : Option Addr) (c : Nat) => [(5, bB b5 (selfP b5) A c l), (900, bR A c l)]) (fun (i : Nat) (l : List UInt8) (A : Option Addr) (c : Nat) => i ≤ t.fi.q ∧ l ++ filesB (t.fi.l.drop i) = pB1 t ∧ l.length ≤ 100 + i * 300 ∧ 4 ≤ l.length) (fun (i : Nat) (l : List UInt8) (A : Option Addr) (c : Nat) => t.fi.q - i) 0 (headB t) x33.1 x33.2 (by repeat (first | exact kf_nil | (apply kf_in; focus rfl) | (apply kf_out; focus rfl))) (by repeat (first | exact kl_nil | exact kl_rest (by assumption) rfl | (apply kl_in; focus rfl) | (apply kl_out; focus rfl))) ?_ ?_ ?_ ?_
    · exact ⟨by omega, rfl, by omega, by omega⟩
    · exact ⟨rfl, trivial⟩
    · exact ⟨rfl, rfl, trivial⟩
    rintro i l A c ⟨hp1, hp2, hp3, hp4⟩
    refine T_seq ?_
    refine T_region ?_
    refine S_ 38 rfl rfl rfl _ (y_bin rfl rfl rfl (fun _ => b_lss)) ?_
    refine S_go (fun _ _ h => h) ?_
    refine T_seq ?_
    refine T_cond rfl (fun h38 => ?_) (fun h38 => ?_)
    · try simp only [decide_eq_true_eq, decide_eq_false_iff_not, Bool.or_eq_true, Bool.or_eq_false_iff, Bool.and_eq_true, Bool.and_eq_false_iff, Bool.not_eq_true', Bool.not_eq_false', Bool.not_eq_true, Bool.not_eq_false, Bool.not_true, Bool.not_false, Int.not_lt, Int.not_le, not_or, not_and, Classical.not_not] at h38
      obtain ⟨x, hx1, hx2⟩ := hok.fi.t.at (i := i) (by omega)
      have hn1 := hR.files x (mem_at hx1)
      have hw1 := wordB_le hn1 (by omega)
      refine T_skip_go (fun _ _ h => h) ?_
      refine T_seq ?_
      refine T_block ?_
      refine T_seq ?_
      refine T_region ?_
      refine S_ 39 rfl rfl rfl _ (y_indexAddr rfl rfl rfl Tryd.underlying22 sz9 (fun hg => hok.fi.t.isSome (by omega)) (fun _ => by omega)) ?_
      refine S_ 40 rfl rfl rfl _ (y_loadT1 (val := (fun l : List UInt8 => str l)) rfl rfl hok.fi.t (fun _ => hx1) Tryd.underlying9 rfl) ?_
      refine S_ 7 rfl rfl rfl _ (y_assign rfl rfl) ?_
      refine S_go (fun _ _ h => h) ?_
      refine T_region ?_
      refine S_ 41 rfl rfl rfl _ (y_move rfl rfl) ?_
      refine S_ 42 rfl rfl rfl _ (y_call rfl rfl rfl cf66 (fun _ w _ => word_any _ (by omega) w)) ?_
      refine S_callM 43 [(0, 5), (1, 900)] (X := Option Addr × Nat) rfl rfl rfl rfl rfl rfl rfl cf61 rfl (fun _ => .tuple #[.int .i64 (wordB x).length, .nilIface]) (fun _ => True) (fun z0 => [(0, bB b5 (selfP b5) z0.1 z0.2 (l ++ wordB x)), (1, bR z0.1 z0.2 (l ++ wordB x))]) (fun _ => rfl) (fun _ => rfl) (fun K1 hK1 w hM => (WStr_any hK1 b5 _ _ _ (l) (wordB x) (.inr rfl) (by omega) w hM).mono fun e w1 h => h.elim fun x h => ⟨x, h.1, trivial, h.2.2⟩) ?_
      intro x43 hx43
      refine S_go (fun _ _ h => h) ?_
      refine T_region ?_
      refine S_ 44 rfl rfl rfl _ (y_bin rfl rfl rfl (fun hg => b_add (by omega))) ?_
      refine S_ 37 rfl rfl rfl _ (y_move rfl rfl) ?_
      refine S_nil (nextK4 (kf := [(7, 7), (37, 44)]) (kl := [(5, 5), (7, 7), (37, 44), (900, 900)]) (i + 1) (l ++ wordB x) x43.1 x43.2 (by repeat (first | exact kf_nil | (apply kf_in; focus rfl) | (apply kf_out; focus rfl))) (by repeat (first | exact kl_nil | exact kl_rest (by assumption) rfl | (apply kl_in; focus rfl) | (apply kl_out; focus rfl))) ?_ ?_ ?_ ?_)
      · omega
      · exact ⟨by omega, by rw [← hp2, hx2, filesB, List.append_assoc], by rw [List.length_append]; omega, by rw [List.length_append]; omega⟩
      · exact ⟨rfl, trivial⟩
      · exact ⟨rfl, rfl, trivial⟩
    · try simp only [decide_eq_true_eq, decide_eq_false_iff_not, Bool.or_eq_true, Bool.or_eq_false_iff, Bool.and_eq_true, Bool.and_eq_false_iff, Bool.not_eq_true', Bool.not_eq_false', Bool.not_eq_true, Bool.not_eq_false, Bool.not_true, Bool.not_false, Int.not_lt, Int.not_le, not_or, not_and, Classical.not_not] at h38
      have e1 : l = pB1 t := by rw [hok.fi.t.end (by omega)] at hp2; simpa [filesB] using hp2
      subst e1
      have hd1 := digI_le (n := t.fu.q) (by omega)
      refine T_exit_go (fun _ _ h => h) ?_
      refine T_seq ?_
      refine T_region ?_
      refine S_ 45 rfl rfl rfl _ (y_fieldAddr rfl rfl fa27_3) ?_
      refine S_ 46 rfl rfl rfl _ (y_load 1 rfl rfl rfl rfl Tryd.underlying23 rfl) ?_
      refine S_ 47 rfl rfl rfl _ (y_len_slice rfl rfl Tryd.underlying23) ?_
      refine S_ 48 rfl rfl rfl _ (y_call rfl rfl rfl cf65 (fun _ w _ => digits_any _ (by omega) (by omega) w)) ?_
      refine S_callM 49 [(0, 5), (1, 900)] (X := Option Addr × Nat) rfl rfl rfl rfl rfl rfl rfl cf61 rfl (fun _ => .tuple #[.int .i64 (dig128 (t.fu.q : Int).toNat).length, .nilIface]) (fun _ => True) (fun z0 => [(0, bB b5 (selfP b5) z0.1 z0.2 (pB1 t ++ dig128 (t.fu.q : Int).toNat)), (1, bR z0.1 z0.2 (pB1 t ++ dig128 (t.fu.q : Int).toNat))]) (fun _ => rfl) (fun _ => rfl) (fun K1 hK1 w hM => (WStr_any hK1 b5 _ _ _ (pB1 t) (dig128 (t.fu.q : Int).toNat) (.inr rfl) (by omega) w hM).mono fun e w1 h => h.elim fun x h => ⟨x, h.1, trivial, h.2.2⟩) ?_
      intro x49 hx49
      refine S_go (fun _ _ h => h) ?_
      refine T_seq ?_
      refine T_region ?_
      refine S_ 8 rfl rfl rfl _ (y_assign rfl rfl) ?_
      refine S_go (fun _ _ h => h) ?_
      refine T_seq ?_
      refine T_seq ?_
      refine T_region ?_
      refine S_ 50 rfl rfl rfl _ (y_fieldAddr rfl rfl fa27_3) ?_
      refine S_ 51 rfl rfl rfl _ (y_load 1 rfl rfl rfl rfl Tryd.underlying23 rfl) ?_
      refine S_ 52 rfl rfl rfl _ (y_len_slice rfl rfl Tryd.underlying23) ?_
      refine S_ 53 rfl rfl rfl _ (y_move rfl rfl) ?_
      refine S_go (fun _ _ h => h) ?_
      refine T_block ?_
      refine T_loopK5 (kf := [(8, 8), (10, 10), (53, 76)]) (kl := [(5, 5), (8, 8), (10, 10), (53, 76), (900, 900)]) (fun (i : Nat) (l : List UInt8) (A : Option Addr) (c : Nat) (last : Int) => [(53, true, .int .i64 (i : Int)), (8, true, .int .i64 last)]) (fun (i : Nat) (l : List UInt8) (A : Option Addr) (c : Nat) (last : Int) => [(5, bB b5 (selfP b5) A c l), (900, bR A c l)]) (fun (i : Nat) (l : List UInt8) (A : Option Addr) (c : Nat) (last : Int) => i ≤ t.fu.q ∧ l ++ funcsB (t.fu.l.drop i) last = pB3 t ∧ l.length ≤ 70000 + i * 300 ∧ 4 ≤ l.length ∧ 0 ≤ last ∧ (∀ f, t.fu.l[i]? = some f → last ≤ f.fr)) (fun (i : Nat) (l : List UInt8) (A : Option Addr) (c : Nat) (last : Int) => t.fu.q - i) 0 (pB1 t ++ dig128 (t.fu.q : Int).toNat) x49.1 x49.2 0 (by repeat (first | exact kf_nil | (apply kf_in; focus rfl) | (apply kf_out; focus rfl))) (by repeat (first | exact kl_nil | exact kl_rest (by assumption) rfl | (apply kl_in; focus rfl) | (apply kl_out; focus rfl))) ?_ ?_ ?_ ?_
      · exact ⟨by omega, rfl, by rw [List.length_append]; omega, by rw [List.length_append]; omega, by omega, fun f hf => (hR.funcs 0 f hf).2.1⟩
      · exact ⟨rfl, rfl, trivial⟩
      · exact ⟨rfl, rfl, trivial⟩
      rintro i l A c last ⟨hp1, hp2, hp3, hp4, hp5, hp6⟩
      refine T_seq ?_
      refine T_region ?_
      refine S_ 54 rfl rfl rfl _ (y_bin rfl rfl rfl (fun _ => b_lss)) ?_
      refine S_go (fun _ _ h => h) ?_
      refine T_seq ?_
      refine T_cond rfl (fun h54 => ?_) (fun h54 => ?_)
      · try simp only [decide_eq_true_eq, decide_eq_false_iff_not, Bool.or_eq_true, Bool.or_eq_false_iff, Bool.and_eq_true, Bool.and_eq_false_iff, Bool.not_eq_true', Bool.not_eq_false', Bool.not_eq_true, Bool.not_eq_false, Bool.not_true, Bool.not_false, Int.not_lt, Int.not_le, not_or, not_and, Classical.not_not] at h54
        obtain ⟨f, hx1, hx2⟩ := hok.fu.t.at (i := i) (by omega)
        obtain ⟨hf1, hf2, hf3, hf4⟩ := hR.funcs i f hx1
        have hf5 := hp6 f hx1
        have hw1 := funcB_le (last := last) hf1 (by omega) (by omega) (by omega) (by omega)
        have e1 := digI_le (n := f.fr - last) (by omega)
        have e2 := digI_le (n := f.to - f.fr) (by omega)
        have e3 := wordB_le hf1 (by omega)
        refine T_skip_go (fun _ _ h => h) ?_
        refine T_seq ?_
        refine T_block ?_
        refine T_seq ?_
        refine T_region ?_
        refine S_ 55 rfl rfl rfl _ (y_indexAddr rfl rfl rfl Tryd.underlying23 sz80 (fun hg => hok.fu.t.isSome (by omega)) (fun _ => by omega)) ?_
        refine S_ 56 rfl rfl rfl _ (y_loadT rfl rfl hok.fu.t (fun _ => rfl) (fun _ => hx1) Tryd.underlying80 rfl sz80) ?_
        refine S_alloc 10 10 rfl rfl rfl rfl z80 ?_
        intro b10
        refine S_store 10 rfl rfl rfl rfl rfl rfl sz80 rfl rfl ?_
        refine S_go (fun _ _ h => h) ?_
        refine T_seq ?_
        refine T_drawsTail 16 (by kernel_rfl) (by kernel_rfl) ?_
        refine D_ 57 rfl rfl rfl _ (y_fieldAddr rfl rfl fa80_1) ?_
        refine D_ 58 rfl rfl rfl _ (y_load 10 rfl rfl rfl rfl Tryd.underlying3 rfl) ?_
        refine D_ 59 rfl rfl rfl _ (y_move rfl rfl) ?_
        refine D_ 60 rfl rfl rfl _ (y_bin rfl rfl rfl (fun hg => b_sub (by omega))) ?_
        refine D_ 61 rfl rfl rfl _ (y_call rfl rfl rfl cf65 (fun _ w _ => digits_any _ (by omega) (by omega) w)) ?_
        refine D_ 62 rfl rfl rfl _ (y_fieldAddr rfl rfl fa80_2) ?_
        refine D_ 63 rfl rfl rfl _ (y_load 10 rfl rfl rfl rfl Tryd.underlying3 rfl) ?_
        refine D_ 64 rfl rfl rfl _ (y_fieldAddr rfl rfl fa80_1) ?_
        refine D_ 65 rfl rfl rfl _ (y_load 10 rfl rfl rfl rfl Tryd.underlying3 rfl) ?_
        refine D_ 66 rfl rfl rfl _ (y_bin rfl rfl rfl (fun hg => b_sub (by omega))) ?_
        refine D_ 67 rfl rfl rfl _ (y_call rfl rfl rfl cf65 (fun _ w _ => digits_any _ (by omega) (by omega) w)) ?_
        refine D_ 68 rfl rfl rfl _ (y_bin rfl rfl rfl (fun hg => b_adds (by first | omega | (simp only [List.length_append, List.length_cons, List.length_nil]; omega)))) ?_
        refine D_ 69 rfl rfl rfl _ (y_fieldAddr rfl rfl fa80_0) ?_
        refine D_ 70 rfl rfl rfl _ (y_load 10 rfl rfl rfl rfl Tryd.underlying9 rfl) ?_
        refine D_ 71 rfl rfl rfl _ (y_call rfl rfl rfl cf66 (fun _ w _ => word_any _ (by omega) w)) ?_
        refine D_ 72 rfl rfl rfl _ (y_bin rfl rfl rfl (fun hg => b_adds (by first | omega | (simp only [List.length_append, List.length_cons, List.length_nil]; omega)))) ?_
        refine D_tail ?_
        refine S_callM 73 [(0, 5), (1, 900)] (X := Option Addr × Nat) rfl rfl rfl rfl rfl rfl rfl cf61 rfl (fun _ => .tuple #[.int .i64 (funcB last f).length, .nilIface]) (fun _ => True) (fun z0 => [(0, bB b5 (selfP b5) z0.1 z0.2 (l ++ funcB last f)), (1, bR z0.1 z0.2 (l ++ funcB last f))]) (fun _ => rfl) (fun _ => rfl) (fun K1 hK1 w hM => (WStr_any hK1 b5 _ _ _ (l) (funcB last f) (.inr rfl) (by omega) w hM).mono fun e w1 h => h.elim fun x h => ⟨x, h.1, trivial, h.2.2⟩) ?_
        intro x73 hx73
        refine S_go (fun _ _ h => h) ?_
        refine T_region ?_
        refine S_ 74 rfl rfl rfl _ (y_fieldAddr rfl rfl fa80_2) ?_
        refine S_ 75 rfl rfl rfl _ (y_load 10 rfl rfl rfl rfl Tryd.underlying3 rfl) ?_
        refine S_ 8 rfl rfl rfl _ (y_assign rfl rfl) ?_
        refine S_go (fun _ _ h => h) ?_
        refine T_region ?_
        refine S_ 76 rfl rfl rfl _ (y_bin rfl rfl rfl (fun hg => b_add (by omega))) ?_
        refine S_ 53 rfl rfl rfl _ (y_move rfl rfl) ?_
        refine S_nil (nextK5 (kf := [(8, 8), (10, 10), (53, 76)]) (kl := [(5, 5), (8, 8), (10, 10), (53, 76), (900, 900)]) (i + 1) (l ++ funcB last f) x73.1 x73.2 f.to (by repeat (first | exact kf_nil | (apply kf_in; focus rfl) | (apply kf_out; focus rfl))) (by repeat (first | exact kl_nil | exact kl_rest (by assumption) rfl | (apply kl_in; focus rfl) | (apply kl_out; focus rfl))) ?_ ?_ ?_ ?_)
        · omega
        · exact ⟨by omega, by rw [← hp2, hx2, funcsB, List.append_assoc], by rw [List.length_append]; omega, by rw [List.length_append]; omega, by omega, fun g hg => hR.rise i f g hx1 hg⟩
        · exact ⟨rfl, rfl, trivial⟩
        · exact ⟨rfl, rfl, trivial⟩
      · try simp only [decide_eq_true_eq, decide_eq_false_iff_not, Bool.or_eq_true, Bool.or_eq_false_iff, Bool.and_eq_true, Bool.and_eq_false_iff, Bool.not_eq_true', Bool.not_eq_false', Bool.not_eq_true, Bool.not_eq_false, Bool.not_true, Bool.not_false, Int.not_lt, Int.not_le, not_or, not_and, Classical.not_not] at h54
        have e1 : l = pB3 t := by rw [hok.fu.t.end (by omega)] at hp2; simpa [funcsB] using hp2
        subst e1
        have hd2 := digI_le (n := t.ro.q) (by omega)
        refine T_exit_go (fun _ _ h => h) ?_
        refine T_seq ?_
        refine T_region ?_
        refine S_ 77 rfl rfl rfl _ (y_fieldAddr rfl rfl fa27_4) ?_
        refine S_ 78 rfl rfl rfl _ (y_load 1 rfl rfl rfl rfl Tryd.underlying24 rfl) ?_
        refine S_ 79 rfl rfl rfl _ (y_len_slice rfl rfl Tryd.underlying24) ?_
        refine S_ 80 rfl rfl rfl _ (y_call rfl rfl rfl cf65 (fun _ w _ => digits_any _ (by omega) (by omega) w)) ?_
        refine S_callM 81 [(0, 5), (1, 900)] (X := Option Addr × Nat) rfl rfl rfl rfl rfl rfl rfl cf61 rfl (fun _ => .tuple #[.int .i64 (dig128 (t.ro.q : Int).toNat).length, .nilIface]) (fun _ => True) (fun z0 => [(0, bB b5 (selfP b5) z0.1 z0.2 (pB3 t ++ dig128 (t.ro.q : Int).toNat)), (1, bR z0.1 z0.2 (pB3 t ++ dig128 (t.ro.q : Int).toNat))]) (fun _ => rfl) (fun _ => rfl) (fun K1 hK1 w hM => (WStr_any hK1 b5 _ _ _ (pB3 t) (dig128 (t.ro.q : Int).toNat) (.inr rfl) (by omega) w hM).mono fun e w1 h => h.elim fun x h => ⟨x, h.1, trivial, h.2.2⟩) ?_
        intro x81 hx81
        refine S_go (fun _ _ h => h) ?_
        refine T_seq ?_
        refine T_region ?_
        refine S_ 82 rfl rfl rfl _ (y_build (zv := .agg #[.int .i64 0, .int .i64 0, .int .i64 0]) (pl := [(0, 1), (1, 1), (2, 1)]) (out := [.int .i64 0, .int .i64 0, .int .i64 0]) rfl rfl Tryd.underlying98 z98 (by kernel_rfl) rfl) ?_
        refine S_alloc 11 11 rfl rfl rfl rfl z98 ?_
        intro b11
        refine S_store 11 rfl rfl rfl rfl rfl rfl sz98 rfl rfl ?_
        refine S_go (fun _ _ h => h) ?_
        refine T_seq ?_
        refine T_seq ?_
        refine T_region ?_
        refine S_ 83 rfl rfl rfl _ (y_fieldAddr rfl rfl fa27_4) ?_
        refine S_ 84 rfl rfl rfl _ (y_load 1 rfl rfl rfl rfl Tryd.underlying24 rfl) ?_
        refine S_ 85 rfl rfl rfl _ (y_len_slice rfl rfl Tryd.underlying24) ?_
        refine S_ 86 rfl rfl rfl _ (y_move rfl rfl) ?_
        refine S_go (fun _ _ h => h) ?_
        refine T_block ?_
        refine T_loopK5 (kf := [(13, 13), (86, 112)]) (kl := [(5, 5), (11, 11), (13, 13), (86, 112), (900, 900)]) (fun (i : Nat) (l : List UInt8) (A : Option Addr) (c : Nat) (b : SRow) => [(86, true, .int .i64 (i : Int))]) (fun (i : Nat) (l : List UInt8) (A : Option Addr) (c : Nat) (b : SRow) => [(5, bB b5 (selfP b5) A c l), (900, bR A c l), (11, .blk b11 (IsBox (SRow.enc b) 98))]) (fun (i : Nat) (l : List UInt8) (A : Option Addr) (c : Nat) (b : SRow) => i ≤ t.ro.q ∧ l ++ rowsB (t.ro.l.drop i) b = pB5 t ∧ l.length ≤ 400000 + i * 300 ∧ 4 ≤ l.length ∧ (0 ≤ b.pos ∧ b.pos < t.size ∧ -1 ≤ b.fi ∧ b.fi ≤ 199 ∧ 0 ≤ b.ln ∧ b.ln ≤ 9999999) ∧ (∀ r, t.ro.l[i]? = some r → b.pos ≤ r.pos)) (fun (i : Nat) (l : List UInt8) (A : Option Addr) (c : Nat) (b : SRow) => t.ro.q - i) 0 (pB3 t ++ dig128 (t.ro.q : Int).toNat) x81.1 x81.2 rowZ (by repeat (first | exact kf_nil | (apply kf_in; focus rfl) | (apply kf_out; focus rfl))) (by repeat (first | exact kl_nil | exact kl_rest (by assumption) rfl | (apply kl_in; focus rfl) | (apply kl_out; focus rfl))) ?_ ?_ ?_ ?_
        · exact ⟨by omega, rfl, by rw [List.length_append]; omega, by rw [List.length_append]; omega, by simp only [rowZ]; omega, fun r hr => (hR.rows 0 r hr).1⟩
        · exact ⟨rfl, trivial⟩
        · exact ⟨rfl, rfl, rfl, trivial⟩
        rintro i l A c b ⟨hp1, hp2, hp3, hp4, hp5, hp6⟩
        refine T_seq ?_
        refine T_region ?_
        refine S_ 87 rfl rfl rfl _ (y_bin rfl rfl rfl (fun _ => b_lss)) ?_
        refine S_go (fun _ _ h => h) ?_
        refine T_seq ?_
        refine T_cond rfl (fun h87 => ?_) (fun h87 => ?_)
        · try simp only [decide_eq_true_eq, decide_eq_false_iff_not, Bool.or_eq_true, Bool.or_eq_false_iff, Bool.and_eq_true, Bool.and_eq_false_iff, Bool.not_eq_true', Bool.not_eq_false', Bool.not_eq_true, Bool.not_eq_false, Bool.not_true, Bool.not_false, Int.not_lt, Int.not_le, not_or, not_and, Classical.not_not] at h87
          obtain ⟨r, hx1, hx2⟩ := hok.ro.t.at (i := i) (by omega)
          have hr1 := hR.rows i r hx1
          have hw1 := rowB_le (b := b) (r := r) (by omega) (by omega)
          have e1 := digI_le (n := r.pos - b.pos) (by omega)
          have e2 := signB_le (d := r.fi - b.fi) (by omega)
          have e3 := signB_le (d := r.ln - b.ln) (by omega)
          have hr3 := hp6 r hx1
          refine T_skip_go (fun _ _ h => h) ?_
          refine T_seq ?_
          refine T_block ?_
          refine T_seq ?_
          refine T_region ?_
          refine S_ 88 rfl rfl rfl _ (y_indexAddr rfl rfl rfl Tryd.underlying24 sz98 (fun hg => hok.ro.t.isSome (by omega)) (fun _ => by omega)) ?_
          refine S_ 89 rfl rfl rfl _ (y_loadT rfl rfl hok.ro.t (fun _ => rfl) (fun _ => hx1) Tryd.underlying98 rfl sz98) ?_
          refine S_alloc 13 13 rfl rfl rfl rfl z98 ?_
          intro b13
          refine S_store 13 rfl rfl rfl rfl rfl rfl sz98 rfl rfl ?_
          refine S_go (fun _ _ h => h) ?_
          refine T_seq ?_
          refine T_drawsTail 20 (by kernel_rfl) (by kernel_rfl) ?_
          refine D_ 90 rfl rfl rfl _ (y_fieldAddr rfl rfl fa98_0) ?_
          refine D_ 91 rfl rfl rfl _ (y_load 13 rfl rfl rfl rfl Tryd.underlying3 rfl) ?_
          refine D_ 92 rfl rfl rfl _ (y_fieldAddr rfl rfl fa98_0) ?_
          refine D_ 93 rfl rfl rfl _ (y_load 11 rfl rfl rfl rfl Tryd.underlying3 rfl) ?_
          refine D_ 94 rfl rfl rfl _ (y_bin rfl rfl rfl (fun hg => b_sub (by omega))) ?_
          refine D_ 95 rfl rfl rfl _ (y_call rfl rfl rfl cf65 (fun _ w _ => digits_any _ (by omega) (by omega) w)) ?_
          refine D_ 96 rfl rfl rfl _ (y_fieldAddr rfl rfl fa98_1) ?_
          refine D_ 97 rfl rfl rfl _ (y_load 13 rfl rfl rfl rfl Tryd.underlying3 rfl) ?_
          refine D_ 98 rfl rfl rfl _ (y_fieldAddr rfl rfl fa98_1) ?_
          refine D_ 99 rfl rfl rfl _ (y_load 11 rfl rfl rfl rfl Tryd.underlying3 rfl) ?_
          refine D_ 100 rfl rfl rfl _ (y_bin rfl rfl rfl (fun hg => b_sub (by omega))) ?_
          refine D_ 101 rfl rfl rfl _ (y_call rfl rfl rfl cf67 (fun _ w _ => signed_any _ (by omega) w)) ?_
          refine D_ 102 rfl rfl rfl _ (y_bin rfl rfl rfl (fun hg => b_adds (by first | omega | (simp only [List.length_append, List.length_cons, List.length_nil]; omega)))) ?_
          refine D_ 103 rfl rfl rfl _ (y_fieldAddr rfl rfl fa98_2) ?_
          refine D_ 104 rfl rfl rfl _ (y_load 13 rfl rfl rfl rfl Tryd.underlying3 rfl) ?_
          refine D_ 105 rfl rfl rfl _ (y_fieldAddr rfl rfl fa98_2) ?_
          refine D_ 106 rfl rfl rfl _ (y_load 11 rfl rfl rfl rfl Tryd.underlying3 rfl) ?_
          refine D_ 107 rfl rfl rfl _ (y_bin rfl rfl rfl (fun hg => b_sub (by omega))) ?_
          refine D_ 108 rfl rfl rfl _ (y_call rfl rfl rfl cf67 (fun _ w _ => signed_any _ (by omega) w)) ?_
          refine D_ 109 rfl rfl rfl _ (y_bin rfl rfl rfl (fun hg => b_adds (by first | omega | (simp only [List.length_append, List.length_cons, List.length_nil]; omega)))) ?_
          refine D_tail ?_
          refine S_callM 110 [(0, 5), (1, 900)] (X := Option Addr × Nat) rfl rfl rfl rfl rfl rfl rfl cf61 rfl (fun _ => .tuple #[.int .i64 (rowB b r).length, .nilIface]) (fun _ => True) (fun z0 => [(0, bB b5 (selfP b5) z0.1 z0.2 (l ++ rowB b r)), (1, bR z0.1 z0.2 (l ++ rowB b r))]) (fun _ => rfl) (fun _ => rfl) (fun K1 hK1 w hM => (WStr_any hK1 b5 _ _ _ (l) (rowB b r) (.inr rfl) (by omega) w hM).mono fun e w1 h => h.elim fun x h => ⟨x, h.1, trivial, h.2.2⟩) ?_
          intro x110 hx110
          refine S_go (fun _ _ h => h) ?_
          refine T_region ?_
          refine S_ 111 rfl rfl rfl _ (y_loadA 13 rfl rfl rfl Tryd.underlying98 rfl sz98) ?_
          refine S_store 11 rfl rfl rfl rfl rfl rfl sz98 rfl rfl ?_
          refine S_go (fun _ _ h => h) ?_
          refine T_region ?_
          refine S_ 112 rfl rfl rfl _ (y_bin rfl rfl rfl (fun hg => b_add (by omega))) ?_
          refine S_ 86 rfl rfl rfl _ (y_move rfl rfl) ?_
          refine S_nil (nextK5 (kf := [(13, 13), (86, 112)]) (kl := [(5, 5), (11, 11), (13, 13), (86, 112), (900, 900)]) (i + 1) (l ++ rowB b r) x110.1 x110.2 r (by repeat (first | exact kf_nil | (apply kf_in; focus rfl) | (apply kf_out; focus rfl))) (by repeat (first | exact kl_nil | exact kl_rest (by assumption) rfl | (apply kl_in; focus rfl) | (apply kl_out; focus rfl))) ?_ ?_ ?_ ?_)
          · omega
          · exact ⟨by omega, by rw [← hp2, hx2, rowsB, List.append_assoc], by rw [List.length_append]; omega, by rw [List.length_append]; omega, hr1, fun g hg => by have := hR.rrise i (i + 1) r g hx1 hg (by omega); omega⟩
          · exact ⟨rfl, trivial⟩
          · exact ⟨rfl, rfl, rfl, trivial⟩
        · try simp only [decide_eq_true_eq, decide_eq_false_iff_not, Bool.or_eq_true, Bool.or_eq_false_iff, Bool.and_eq_true, Bool.and_eq_false_iff, Bool.not_eq_true', Bool.not_eq_false', Bool.not_eq_true, Bool.not_eq_false, Bool.not_true, Bool.not_false, Int.not_lt, Int.not_le, not_or, not_and, Classical.not_not] at h87
          have e1 : l = pB5 t := by rw [hok.ro.t.end (by omega)] at hp2; simpa [rowsB] using hp2
          subst e1
          have hd3 := digI_le (n := t.ca.q) (by omega)
          refine T_exit_go (fun _ _ h => h) ?_
          refine T_seq ?_
          refine T_region ?_
          refine S_ 113 rfl rfl rfl _ (y_fieldAddr rfl rfl fa27_5) ?_
          refine S_ 114 rfl rfl rfl _ (y_load 1 rfl rfl rfl rfl Tryd.underlying25 rfl) ?_
          refine S_ 115 rfl rfl rfl _ (y_len_slice rfl rfl Tryd.underlying25) ?_
          refine S_ 116 rfl rfl rfl _ (y_call rfl rfl rfl cf65 (fun _ w _ => digits_any _ (by omega) (by omega) w)) ?_
          refine S_callM 117 [(0, 5), (1, 900)] (X := Option Addr × Nat) rfl rfl rfl rfl rfl rfl rfl cf61 rfl (fun _ => .tuple #[.int .i64 (dig128 (t.ca.q : Int).toNat).length, .nilIface]) (fun _ => True) (fun z0 => [(0, bB b5 (selfP b5) z0.1 z0.2 (pB5 t ++ dig128 (t.ca.q : Int).toNat)), (1, bR z0.1 z0.2 (pB5 t ++ dig128 (t.ca.q : Int).toNat))]) (fun _ => rfl) (fun _ => rfl) (fun K1 hK1 w hM => (WStr_any hK1 b5 _ _ _ (pB5 t) (dig128 (t.ca.q : Int).toNat) (.inr rfl) (by omega) w hM).mono fun e w1 h => h.elim fun x h => ⟨x, h.1, trivial, h.2.2⟩) ?_
          intro x117 hx117
          refine S_go (fun _ _ h => h) ?_
          refine T_seq ?_
          refine T_region ?_
          refine S_ 8 rfl rfl rfl _ (y_assign rfl rfl) ?_
          refine S_go (fun _ _ h => h) ?_
          refine T_seq ?_
          refine T_seq ?_
          refine T_region ?_
          refine S_ 118 rfl rfl rfl _ (y_fieldAddr rfl rfl fa27_5) ?_
          refine S_ 119 rfl rfl rfl _ (y_load 1 rfl rfl rfl rfl Tryd.underlying25 rfl) ?_
          refine S_ 120 rfl rfl rfl _ (y_len_slice rfl rfl Tryd.underlying25) ?_
          refine S_ 121 rfl rfl rfl _ (y_move rfl rfl) ?_
          refine S_go (fun _ _ h => h) ?_
          refine T_block ?_
          refine T_loopK5 (kf := [(8, 8), (15, 15), (121, 152)]) (kl := [(5, 5), (8, 8), (15, 15), (121, 152), (900, 900)]) (fun (i : Nat) (l : List UInt8) (A : Option Addr) (c : Nat) (last : Int) => [(121, true, .int .i64 (i : Int)), (8, true, .int .i64 last)]) (fun (i : Nat) (l : List UInt8) (A : Option Addr) (c : Nat) (last : Int) => [(5, bB b5 (selfP b5) A c l), (900, bR A c l)]) (fun (i : Nat) (l : List UInt8) (A : Option Addr) (c : Nat) (last : Int) => i ≤ t.ca.q ∧ l ++ callsB (t.ca.l.drop i) last = tabB t ∧ l.length ≤ 2000000 + i * 300 ∧ 4 ≤ l.length ∧ 0 ≤ last ∧ (∀ f, t.ca.l[i]? = some f → last ≤ f.fr)) (fun (i : Nat) (l : List UInt8) (A : Option Addr) (c : Nat) (last : Int) => t.ca.q - i) 0 (pB5 t ++ dig128 (t.ca.q : Int).toNat) x117.1 x117.2 0 (by repeat (first | exact kf_nil | (apply kf_in; focus rfl) | (apply kf_out; focus rfl))) (by repeat (first | exact kl_nil | exact kl_rest (by assumption) rfl | (apply kl_in; focus rfl) | (apply kl_out; focus rfl))) ?_ ?_ ?_ ?_
          · exact ⟨by omega, rfl, by rw [List.length_append]; omega, by rw [List.length_append]; omega, by omega, fun f hf => (hR.calls 0 f hf).2.1⟩
          · exact ⟨rfl, rfl, trivial⟩
          · exact ⟨rfl, rfl, trivial⟩
          rintro i l A c last ⟨hp1, hp2, hp3, hp4, hp5, hp6⟩
          refine T_seq ?_
          refine T_region ?_
          refine S_ 122 rfl rfl rfl _ (y_bin rfl rfl rfl (fun _ => b_lss)) ?_
          refine S_go (fun _ _ h => h) ?_
          refine T_seq ?_
          refine T_cond rfl (fun h122 => ?_) (fun h122 => ?_)
          · try simp only [decide_eq_true_eq, decide_eq_false_iff_not, Bool.or_eq_true, Bool.or_eq_false_iff, Bool.and_eq_true, Bool.and_eq_false_iff, Bool.not_eq_true', Bool.not_eq_false', Bool.not_eq_true, Bool.not_eq_false, Bool.not_true, Bool.not_false, Int.not_lt, Int.not_le, not_or, not_and, Classical.not_not] at h122
            obtain ⟨c0, hx1, hx2⟩ := hok.ca.t.at (i := i) (by omega)
            obtain ⟨hc1, hc2⟩ := hR.calls i c0 hx1
            have hc3 := hp6 c0 hx1
            have hw1 := callB_le (last := last) hc1 (by omega) (by omega)
            have e1 := digI_le (n := c0.fr - last) (by omega)
            have e2 := digI_le (n := c0.to - c0.fr) (by omega)
            have e4 := digI_le (n := c0.fi) (by omega)
            have e5 := digI_le (n := c0.ln) (by omega)
            have e3 := wordB_le hc1 (by omega)
            refine T_skip_go (fun _ _ h => h) ?_
            refine T_seq ?_
            refine T_block ?_
            refine T_seq ?_
            refine T_region ?_
            refine S_ 123 rfl rfl rfl _ (y_indexAddr rfl rfl rfl Tryd.underlying25 sz110 (fun hg => hok.ca.t.isSome (by omega)) (fun _ => by omega)) ?_
            refine S_ 124 rfl rfl rfl _ (y_loadT rfl rfl hok.ca.t (fun _ => rfl) (fun _ => hx1) Tryd.underlying110 rfl sz110) ?_
            refine S_alloc 15 15 rfl rfl rfl rfl z110 ?_
            intro b15
            refine S_store 15 rfl rfl rfl rfl rfl rfl sz110 rfl rfl ?_
            refine S_go (fun _ _ h => h) ?_
            refine T_seq ?_
            refine T_drawsTail 24 (by kernel_rfl) (by kernel_rfl) ?_
            refine D_ 125 rfl rfl rfl _ (y_fieldAddr rfl rfl fa110_1) ?_
            refine D_ 126 rfl rfl rfl _ (y_load 15 rfl rfl rfl rfl Tryd.underlying3 rfl) ?_
            refine D_ 127 rfl rfl rfl _ (y_move rfl rfl) ?_
            refine D_ 128 rfl rfl rfl _ (y_bin rfl rfl rfl (fun hg => b_sub (by omega))) ?_
            refine D_ 129 rfl rfl rfl _ (y_call rfl rfl rfl cf65 (fun _ w _ => digits_any _ (by omega) (by omega) w)) ?_
            refine D_ 130 rfl rfl rfl _ (y_fieldAddr rfl rfl fa110_2) ?_
            refine D_ 131 rfl rfl rfl _ (y_load 15 rfl rfl rfl rfl Tryd.underlying3 rfl) ?_
            refine D_ 132 rfl rfl rfl _ (y_fieldAddr rfl rfl fa110_1) ?_
            refine D_ 133 rfl rfl rfl _ (y_load 15 rfl rfl rfl rfl Tryd.underlying3 rfl) ?_
            refine D_ 134 rfl rfl rfl _ (y_bin rfl rfl rfl (fun hg => b_sub (by omega))) ?_
            refine D_ 135 rfl rfl rfl _ (y_call rfl rfl rfl cf65 (fun _ w _ => digits_any _ (by omega) (by omega) w)) ?_
            refine D_ 136 rfl rfl rfl _ (y_bin rfl rfl rfl (fun hg => b_adds (by first | omega | (simp only [List.length_append, List.length_cons, List.length_nil]; omega)))) ?_
            refine D_ 137 rfl rfl rfl _ (y_fieldAddr rfl rfl fa110_3) ?_
            refine D_ 138 rfl rfl rfl _ (y_load 15 rfl rfl rfl rfl Tryd.underlying3 rfl) ?_
            refine D_ 139 rfl rfl rfl _ (y_call rfl rfl rfl cf65 (fun _ w _ => digits_any _ (by omega) (by omega) w)) ?_
            refine D_ 140 rfl rfl rfl _ (y_bin rfl rfl rfl (fun hg => b_adds (by first | omega | (simp only [List.length_append, List.length_cons, List.length_nil]; omega)))) ?_
            refine D_ 141 rfl rfl rfl _ (y_fieldAddr rfl rfl fa110_4) ?_
            refine D_ 142 rfl rfl rfl _ (y_load 15 rfl rfl rfl rfl Tryd.underlying3 rfl) ?_
            refine D_ 143 rfl rfl rfl _ (y_call rfl rfl rfl cf65 (fun _ w _ => digits_any _ (by omega) (by omega) w)) ?_
            refine D_ 144 rfl rfl rfl _ (y_bin rfl rfl rfl (fun hg => b_adds (by first | omega | (simp only [List.length_append, List.length_cons, List.length_nil]; omega)))) ?_
            refine D_ 145 rfl rfl rfl _ (y_fieldAddr rfl rfl fa110_0) ?_
            refine D_ 146 rfl rfl rfl _ (y_load 15 rfl rfl rfl rfl Tryd.underlying9 rfl) ?_
            refine D_ 147 rfl rfl rfl _ (y_call rfl rfl rfl cf66 (fun _ w _ => word_any _ (by omega) w)) ?_
            refine D_ 148 rfl rfl rfl _ (y_bin rfl rfl rfl (fun hg => b_adds (by first | omega | (simp only [List.length_append, List.length_cons, List.length_nil]; omega)))) ?_
            refine D_tail ?_
            refine S_callM 149 [(0, 5), (1, 900)] (X := Option Addr × Nat) rfl rfl rfl rfl rfl rfl rfl cf61 rfl (fun _ => .tuple #[.int .i64 (callB last c0).length, .nilIface]) (fun _ => True) (fun z0 => [(0, bB b5 (selfP b5) z0.1 z0.2 (l ++ callB last c0)), (1, bR z0.1 z0.2 (l ++ callB last c0))]) (fun _ => rfl) (fun _ => rfl) (fun K1 hK1 w hM => (WStr_any hK1 b5 _ _ _ (l) (callB last c0) (.inr rfl) (by omega) w hM).mono fun e w1 h => h.elim fun x h => ⟨x, h.1, trivial, h.2.2⟩) ?_
            intro x149 hx149
            refine S_go (fun _ _ h => h) ?_
            refine T_region ?_
            refine S_ 150 rfl rfl rfl _ (y_fieldAddr rfl rfl fa110_1) ?_
            refine S_ 151 rfl rfl rfl _ (y_load 15 rfl rfl rfl rfl Tryd.underlying3 rfl) ?_
            refine S_ 8 rfl rfl rfl _ (y_assign rfl rfl) ?_
            refine S_go (fun _ _ h => h) ?_
            refine T_region ?_
            refine S_ 152 rfl rfl rfl _ (y_bin rfl rfl rfl (fun hg => b_add (by omega))) ?_
            refine S_ 121 rfl rfl rfl _ (y_move rfl rfl) ?_
            refine S_nil (nextK5 (kf := [(8, 8), (15, 15), (121, 152)]) (kl := [(5, 5), (8, 8), (15, 15), (121, 152), (900, 900)]) (i + 1) (l ++ callB last c0) x149.1 x149.2 c0.fr (by repeat (first | exact kf_nil | (apply kf_in; focus rfl) | (apply kf_out; focus rfl))) (by repeat (first | exact kl_nil | exact kl_rest (by assumption) rfl | (apply kl_in; focus rfl) | (apply kl_out; focus rfl))) ?_ ?_ ?_ ?_)
            · omega
            · exact ⟨by omega, by rw [← hp2, hx2, callsB, List.append_assoc], by rw [List.length_append]; omega, by rw [List.length_append]; omega, by omega, fun g hg => hR.crise i c0 g hx1 hg⟩
            · exact ⟨rfl, rfl, trivial⟩
            · exact ⟨rfl, rfl, trivial⟩
          · try simp only [decide_eq_true_eq, decide_eq_false_iff_not, Bool.or_eq_true, Bool.or_eq_false_iff, Bool.and_eq_true, Bool.and_eq_false_iff, Bool.not_eq_true', Bool.not_eq_false', Bool.not_eq_true, Bool.not_eq_false, Bool.not_true, Bool.not_false, Int.not_lt, Int.not_le, not_or, not_and, Classical.not_not] at h122
            have e1 : l = tabB t := by rw [hok.ca.t.end (by omega)] at hp2; simpa [callsB] using hp2
            subst e1
            refine T_exit_go (fun _ _ h => h) ?_
            refine T_seq ?_
            refine T_seq ?_
            refine T_region ?_
            refine S_ 153 rfl rfl rfl _ (y_call rfl rfl rfl cf68 (fun _ w hM => BLen_any b5 A (tabB t).length c w (hM.box_cell (i := 5) rfl rfl))) ?_
            refine S_ 154 rfl rfl rfl _ (y_bin rfl rfl rfl (fun _ => b_gtr)) ?_
            refine S_go (fun _ _ h => h) ?_
            refine T_cond rfl (fun h154 => ?_) (fun h154 => ?_)
            · try simp only [decide_eq_true_eq, decide_eq_false_iff_not, Bool.or_eq_true, Bool.or_eq_false_iff, Bool.and_eq_true, Bool.and_eq_false_iff, Bool.not_eq_true', Bool.not_eq_false', Bool.not_eq_true, Bool.not_eq_false, Bool.not_true, Bool.not_false, Int.not_lt, Int.not_le, not_or, not_and, Classical.not_not] at h154
              refine T_seq ?_
              refine T_region ?_
              refine S_ 2 rfl rfl rfl _ (y_assign rfl rfl) ?_
              refine S_ 3 rfl rfl rfl _ (y_assign rfl rfl) ?_
              refine S_go (fun _ _ h => h) ?_
              refine T_ret (fun a w hF hM => hRb a w (post2 rfl rfl rfl (fun w hM => ?_) a w hF hM))
              have e : writeNo t = 4 := fst_b h19 (if_pos (by omega))
              have e2 : writeS t = [] := if_neg (by rw [e]; decide)
              exact ⟨by rw [e, e2], hM.below⟩
            · try simp only [decide_eq_true_eq, decide_eq_false_iff_not, Bool.or_eq_true, Bool.or_eq_false_iff, Bool.and_eq_true, Bool.and_eq_false_iff, Bool.not_eq_true', Bool.not_eq_false', Bool.not_eq_true, Bool.not_eq_false, Bool.not_true, Bool.not_false, Int.not_lt, Int.not_le, not_or, not_and, Classical.not_not] at h154
              refine T_skip_go (fun _ _ h => h) ?_
              refine T_seq ?_
              refine T_region ?_
              refine S_callM 155 [(0, 5), (1, 900)] (X := Unit) rfl rfl rfl rfl rfl rfl rfl cf64 rfl (fun _ => str (tabB t)) (fun _ => True) (fun _ => [(1, bR none 0 []), (0, bB b5 (selfP b5) A c (tabB t))]) (fun _ => rfl) (fun _ => rfl) (fun K1 hK1 w hM => (BStr_any hK1 b5 _ _ _ (tabB t) (by omega) (by omega) w hM).mono fun e w1 h => ⟨(), h.1, trivial, h.2⟩) ?_
              intro _ _
              refine S_ 2 rfl rfl rfl _ (y_assign rfl rfl) ?_
              refine S_ 3 rfl rfl rfl _ (y_assign rfl rfl) ?_
              refine S_go (fun _ _ h => h) ?_
              refine T_ret (fun a w hF hM => hRb a w (post2 rfl rfl rfl (fun w hM => ?_) a w hF hM))
              have e : writeNo t = 0 := fst_b h19 (if_neg (by omega))
              have e2 : writeS t = tabB t := if_pos e
              exact ⟨by rw [e, e2], hM.below⟩
end Go.Proofs.YtofolhnecfkjkaaDoor
