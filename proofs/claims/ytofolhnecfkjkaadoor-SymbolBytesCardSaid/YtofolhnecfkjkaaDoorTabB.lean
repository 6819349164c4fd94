/- The reference's TableBytes of a right table. Conditions: those of each theorem. -/
import Derived.Test.YtofolhnecfkjkaaDoorWrite
namespace Go.Proofs.YtofolhnecfkjkaaDoor
set_option linter.unusedSimpArgs false
set_option linter.unusedVariables false
set_option maxRecDepth 20000
open Go.RowKit Go.Eng
theorem NameC_any {w0 : World} {K : HL} (hK : FromK K) (b : Nat) (ad : Value) (A : Option Addr) (c : Nat) (l s : List UInt8) (had : ad = .pointer none ∨ ad = selfP b) (hs : s.length ≤ 200) (hlen : l.length + (wordB s).length ≤ 140737488355328) (w : World) (hM0 : Mem w0 ([(0, bB b ad A c l), (1, bR A c l)] ++ K) w) :
    Calls Tryd.prog 60 #[str s, selfP b] w fun e w' => ∃ x : Option Addr × Nat, e = .returned (.tuple #[]) ∧ Mem w0 ([(0, bB b (selfP b) x.1 x.2 (l ++ wordB s)), (1, bR x.1 x.2 (l ++ wordB s))] ++ K) w' := by
  have hd := digI_le (n := s.length) (by omega)
  refine enterM_args (args := [str s, selfP b]) (F := _) hM0 Tryd.func60 rfl Tryd.ntmps60 rfl rfl ?_
  intro Rb hRb hRn
  refine T_region ?_
  refine S_ 3 rfl rfl rfl _ (y_move rfl rfl) ?_
  refine S_ 4 rfl rfl rfl _ (y_len_str rfl rfl Tryd.underlying9) ?_
  refine S_ 5 rfl rfl rfl _ (y_call rfl rfl rfl cf62 (fun _ w _ => number_any _ (by omega) (by omega) w)) ?_
  refine S_ 6 rfl rfl rfl _ (y_move rfl rfl) ?_
  refine S_ 7 rfl rfl rfl _ (y_bin rfl rfl rfl (fun hg => b_adds (by first | omega | (simp only [List.length_append, List.length_cons, List.length_nil]; omega)))) ?_
  refine S_callM 8 [(0, 0), (1, 1)] (X := Option Addr × Nat) rfl rfl rfl rfl rfl rfl rfl cf61 rfl (fun _ => .tuple #[.int .i64 (wordB s).length, .nilIface]) (fun _ => True) (fun z0 => [(0, bB b (selfP b) z0.1 z0.2 (l ++ wordB s)), (1, bR z0.1 z0.2 (l ++ wordB s))]) (fun _ => rfl) (fun _ => rfl) (fun K1 hK1 w hM => (WStr_any hK1 b _ _ _ (l) (wordB s) (had) (by omega) w hM).mono fun e w1 h => h.elim fun x h => ⟨x, h.1, trivial, h.2.2⟩) ?_
  intro x8 hx8
  refine S_nil (fun a w hF hM => hRn a w (post0 rfl (fun w hM => ?_) a w hF hM))
  exact ⟨(x8.1, x8.2), rfl, hM.keep (ks := [(0, 999)]) (by repeat (first | exact kl_rest (by assumption) rfl | (apply kl_in; focus rfl))) _ ⟨rfl, rfl, trivial⟩⟩
def funcN (last : Int) (f : SFunc) : List UInt8 := dig128 (f.fr - last).toNat ++ dig128 (f.to - f.fr).toNat
theorem funcB_n (last : Int) (f : SFunc) : funcB last f = funcN last f ++ wordB f.name := rfl
def callN (last : Int) (c : SCall) : List UInt8 := dig128 (c.fr - last).toNat ++ dig128 (c.to - c.fr).toNat ++ dig128 c.fi.toNat ++ dig128 c.ln.toNat
theorem callB_n (last : Int) (c : SCall) : callB last c = callN last c ++ wordB c.name := rfl
theorem TableBytes_any (t : Tab) (w : World) (hok : t.Ok w) (h0 : tabNo t = 0) :
    Calls Tryd.prog 20 #[.agg #[str t.id, .int .i64 t.size, .slice t.fi.A t.fi.q t.fi.c, .slice t.fu.A t.fu.q t.fu.c, .slice t.ro.A t.ro.q t.ro.c, .slice t.ca.A t.ca.q t.ca.c]] w fun e w' => e = .returned (str (tabB t)) ∧ Below w.heap.size w w' := by
  have hq := hok.small
  have hR := rightT h0
  have hs := hR.size
  have hqs := hR.qs
  have hhead := hR.head
  have hdz := digI_le (n := t.size) (by omega)
  have hdf := digI_le (n := t.fi.q) (by omega)
  have hid : t.id.length ≤ 38 := by have := hhead.1; simp only [headB, List.length_append] at this; omega
  have hmag : magic.length = 4 := rfl
  refine enter_args (args := [.agg #[str t.id, .int .i64 t.size, .slice t.fi.A t.fi.q t.fi.c, .slice t.fu.A t.fu.q t.fu.c, .slice t.ro.A t.ro.q t.ro.c, .slice t.ca.A t.ca.q t.ca.c]]) (F := _) Tryd.func20 rfl Tryd.ntmps20 rfl rfl ?_
  intro Rb hRb hRn
  refine T_seq ?_
  refine T_region ?_
  refine S_box 1 1 rfl rfl rfl rfl rfl ?_
  intro b1
  refine S_ 2 rfl rfl rfl _ (y_assign rfl rfl) ?_
  refine S_go (fun _ _ h => h) ?_
  refine T_seq ?_
  refine T_region ?_
  refine S_alloc 3 3 rfl rfl rfl rfl z102 ?_
  intro b3
  refine S_nilSlice 900 (e := 5) (size := 1) ?_
  refine S_go (fun _ _ h => h) ?_
  refine T_seq ?_
  refine T_region ?_
  refine S_ 16 rfl rfl rfl _ (y_makeFunc rfl rfl rfl rfl rfl) ?_
  refine S_ 4 rfl rfl rfl _ (y_assign rfl rfl) ?_
  refine S_go (fun _ _ h => h) ?_
  refine T_seq ?_
  refine T_drawsTail 12 (by kernel_rfl) (by kernel_rfl) ?_
  refine D_ 17 rfl rfl rfl _ (y_fieldAddr rfl rfl fa27_0) ?_
  refine D_ 18 rfl rfl rfl _ (y_load 1 rfl rfl rfl rfl Tryd.underlying9 rfl) ?_
  refine D_ 19 rfl rfl rfl _ (y_bin rfl rfl rfl (fun hg => b_adds (by first | omega | (simp only [List.length_append, List.length_cons, List.length_nil]; omega)))) ?_
  refine D_ 20 rfl rfl rfl _ (y_fieldAddr rfl rfl fa27_1) ?_
  refine D_ 21 rfl rfl rfl _ (y_load 1 rfl rfl rfl rfl Tryd.underlying3 rfl) ?_
  refine D_ 22 rfl rfl rfl _ (y_call rfl rfl rfl cf62 (fun _ w _ => number_any _ (by omega) (by omega) w)) ?_
  refine D_ 23 rfl rfl rfl _ (y_bin rfl rfl rfl (fun hg => b_adds (by first | omega | (simp only [List.length_append, List.length_cons, List.length_nil]; omega)))) ?_
  refine D_ 24 rfl rfl rfl _ (y_fieldAddr rfl rfl fa27_2) ?_
  refine D_ 25 rfl rfl rfl _ (y_load 1 rfl rfl rfl rfl Tryd.underlying22 rfl) ?_
  refine D_ 26 rfl rfl rfl _ (y_len_slice rfl rfl Tryd.underlying22) ?_
  refine D_ 27 rfl rfl rfl _ (y_call rfl rfl rfl cf62 (fun _ w _ => number_any _ (by omega) (by omega) w)) ?_
  refine D_ 28 rfl rfl rfl _ (y_bin rfl rfl rfl (fun hg => b_adds (by first | omega | (simp only [List.length_append, List.length_cons, List.length_nil]; omega)))) ?_
  refine D_tail ?_
  refine S_callM 29 [(0, 3), (1, 900)] (X := Option Addr × Nat) rfl rfl rfl rfl rfl rfl rfl cf61 rfl (fun _ => .tuple #[.int .i64 (headB t).length, .nilIface]) (fun _ => True) (fun z0 => [(0, bB b3 (selfP b3) z0.1 z0.2 ([] ++ headB t)), (1, bR z0.1 z0.2 ([] ++ headB t))]) (fun _ => rfl) (fun _ => rfl) (fun K1 hK1 w hM => (WStr_any hK1 b3 _ _ _ ([]) (headB t) (.inl rfl) (by simp only [List.length_nil]; omega) w hM).mono fun e w1 h => h.elim fun x h => ⟨x, h.1, trivial, h.2.2⟩) ?_
  intro x29 hx29
  refine S_go (fun _ _ h => h) ?_
  refine T_seq ?_
  refine T_seq ?_
  refine T_region ?_
  refine S_ 30 rfl rfl rfl _ (y_fieldAddr rfl rfl fa27_2) ?_
  refine S_ 31 rfl rfl rfl _ (y_load 1 rfl rfl rfl rfl Tryd.underlying22 rfl) ?_
  refine S_ 32 rfl rfl rfl _ (y_len_slice rfl rfl Tryd.underlying22) ?_
  refine S_ 33 rfl rfl rfl _ (y_move rfl rfl) ?_
  refine S_go (fun _ _ h => h) ?_
  refine T_block ?_
  refine T_loopK4 (kf := [(6, 6), (33, 40)]) (kl := [(3, 3), (6, 6), (33, 40), (900, 900)]) (fun (i : Nat) (l : List UInt8) (A : Option Addr) (c : Nat) => [(33, true, .int .i64 (i : Int))]) (fun (i : Nat) (l : List UInt8) (A : Option Addr) (c : Nat) => [(3, bB b3 (selfP b3) A c l), (900, bR A c l)]) (fun (i : Nat) (l : List UInt8) (A : Option Addr) (c : Nat) => i ≤ t.fi.q ∧ l ++ filesB (t.fi.l.drop i) = pB1 t ∧ l.length ≤ 100 + i * 300 ∧ 4 ≤ l.length) (fun (i : Nat) (l : List UInt8) (A : Option Addr) (c : Nat) => t.fi.q - i) 0 (headB t) x29.1 x29.2 (by repeat (first | exact kf_nil | (apply kf_in; focus rfl) | (apply kf_out; focus rfl))) (by repeat (first | exact kl_nil | exact kl_rest (by assumption) rfl | (apply kl_in; focus rfl) | (apply kl_out; focus rfl))) ?_ ?_ ?_ ?_
  · exact ⟨by omega, rfl, by omega, by omega⟩
  · exact ⟨rfl, trivial⟩
  · exact ⟨rfl, rfl, trivial⟩
  rintro i l A c ⟨hp1, hp2, hp3, hp4⟩
  refine T_seq ?_
  refine T_region ?_
  refine S_ 34 rfl rfl rfl _ (y_bin rfl rfl rfl (fun _ => b_lss)) ?_
  refine S_go (fun _ _ h => h) ?_
  refine T_seq ?_
  refine T_cond rfl (fun h34 => ?_) (fun h34 => ?_)
  · try simp only [decide_eq_true_eq, decide_eq_false_iff_not, Bool.or_eq_true, Bool.or_eq_false_iff, Bool.and_eq_true, Bool.and_eq_false_iff, Bool.not_eq_true', Bool.not_eq_false', Bool.not_eq_true, Bool.not_eq_false, Bool.not_true, Bool.not_false, Int.not_lt, Int.not_le, not_or, not_and, Classical.not_not] at h34
    obtain ⟨x, hx1, hx2⟩ := hok.fi.t.at (i := i) (by omega)
    have hn1 := hR.files x (mem_at hx1)
    have hw1 := wordB_le hn1 (by omega)
    refine T_skip_go (fun _ _ h => h) ?_
    refine T_seq ?_
    refine T_block ?_
    refine T_seq ?_
    refine T_region ?_
    refine S_ 35 rfl rfl rfl _ (y_indexAddr rfl rfl rfl Tryd.underlying22 sz9 (fun hg => hok.fi.t.isSome (by omega)) (fun _ => by omega)) ?_
    refine S_ 36 rfl rfl rfl _ (y_loadT1 (val := (fun l : List UInt8 => str l)) rfl rfl hok.fi.t (fun _ => hx1) Tryd.underlying9 rfl) ?_
    refine S_ 6 rfl rfl rfl _ (y_assign rfl rfl) ?_
    refine S_go (fun _ _ h => h) ?_
    refine T_region ?_
    refine S_ 37 rfl rfl rfl _ (y_move rfl rfl) ?_
    refine S_ 38 rfl rfl rfl _ (y_move rfl rfl) ?_
    refine S_callM 39 [(0, 3), (1, 900)] (X := Option Addr × Nat) rfl rfl rfl rfl rfl rfl rfl cf60 rfl (fun _ => .tuple #[]) (fun _ => True) (fun z0 => [(0, bB b3 (selfP b3) z0.1 z0.2 (l ++ wordB x)), (1, bR z0.1 z0.2 (l ++ wordB x))]) (fun _ => rfl) (fun _ => rfl) (fun K1 hK1 w hM => (NameC_any hK1 b3 _ _ _ (l) (x) (.inr rfl) (by omega) (by omega) w hM).mono fun e w1 h => h.elim fun x h => ⟨x, h.1, trivial, h.2⟩) ?_
    intro x39 hx39
    refine S_go (fun _ _ h => h) ?_
    refine T_region ?_
    refine S_ 40 rfl rfl rfl _ (y_bin rfl rfl rfl (fun hg => b_add (by omega))) ?_
    refine S_ 33 rfl rfl rfl _ (y_move rfl rfl) ?_
    refine S_nil (nextK4 (kf := [(6, 6), (33, 40)]) (kl := [(3, 3), (6, 6), (33, 40), (900, 900)]) (i + 1) (l ++ wordB x) x39.1 x39.2 (by repeat (first | exact kf_nil | (apply kf_in; focus rfl) | (apply kf_out; focus rfl))) (by repeat (first | exact kl_nil | exact kl_rest (by assumption) rfl | (apply kl_in; focus rfl) | (apply kl_out; focus rfl))) ?_ ?_ ?_ ?_)
    · omega
    · exact ⟨by omega, by rw [← hp2, hx2, filesB, List.append_assoc], by rw [List.length_append]; omega, by rw [List.length_append]; omega⟩
    · exact ⟨rfl, trivial⟩
    · exact ⟨rfl, rfl, trivial⟩
  · try simp only [decide_eq_true_eq, decide_eq_false_iff_not, Bool.or_eq_true, Bool.or_eq_false_iff, Bool.and_eq_true, Bool.and_eq_false_iff, Bool.not_eq_true', Bool.not_eq_false', Bool.not_eq_true, Bool.not_eq_false, Bool.not_true, Bool.not_false, Int.not_lt, Int.not_le, not_or, not_and, Classical.not_not] at h34
    have e1 : l = pB1 t := by rw [hok.fi.t.end (by omega)] at hp2; simpa [filesB] using hp2
    subst e1
    have hd1 := digI_le (n := t.fu.q) (by omega)
    refine T_exit_go (fun _ _ h => h) ?_
    refine T_seq ?_
    refine T_region ?_
    refine S_ 41 rfl rfl rfl _ (y_fieldAddr rfl rfl fa27_3) ?_
    refine S_ 42 rfl rfl rfl _ (y_load 1 rfl rfl rfl rfl Tryd.underlying23 rfl) ?_
    refine S_ 43 rfl rfl rfl _ (y_len_slice rfl rfl Tryd.underlying23) ?_
    refine S_ 44 rfl rfl rfl _ (y_call rfl rfl rfl cf62 (fun _ w _ => number_any _ (by omega) (by omega) w)) ?_
    refine S_callM 45 [(0, 3), (1, 900)] (X := Option Addr × Nat) rfl rfl rfl rfl rfl rfl rfl cf61 rfl (fun _ => .tuple #[.int .i64 (dig128 (t.fu.q : Int).toNat).length, .nilIface]) (fun _ => True) (fun z0 => [(0, bB b3 (selfP b3) z0.1 z0.2 (pB1 t ++ dig128 (t.fu.q : Int).toNat)), (1, bR z0.1 z0.2 (pB1 t ++ dig128 (t.fu.q : Int).toNat))]) (fun _ => rfl) (fun _ => rfl) (fun K1 hK1 w hM => (WStr_any hK1 b3 _ _ _ (pB1 t) (dig128 (t.fu.q : Int).toNat) (.inr rfl) (by omega) w hM).mono fun e w1 h => h.elim fun x h => ⟨x, h.1, trivial, h.2.2⟩) ?_
    intro x45 hx45
    refine S_go (fun _ _ h => h) ?_
    refine T_seq ?_
    refine T_region ?_
    refine S_ 7 rfl rfl rfl _ (y_assign rfl rfl) ?_
    refine S_go (fun _ _ h => h) ?_
    refine T_seq ?_
    refine T_seq ?_
    refine T_region ?_
    refine S_ 46 rfl rfl rfl _ (y_fieldAddr rfl rfl fa27_3) ?_
    refine S_ 47 rfl rfl rfl _ (y_load 1 rfl rfl rfl rfl Tryd.underlying23 rfl) ?_
    refine S_ 48 rfl rfl rfl _ (y_len_slice rfl rfl Tryd.underlying23) ?_
    refine S_ 49 rfl rfl rfl _ (y_move rfl rfl) ?_
    refine S_go (fun _ _ h => h) ?_
    refine T_block ?_
    refine T_loopK5 (kf := [(7, 7), (9, 9), (49, 72)]) (kl := [(3, 3), (7, 7), (9, 9), (49, 72), (900, 900)]) (fun (i : Nat) (l : List UInt8) (A : Option Addr) (c : Nat) (last : Int) => [(49, true, .int .i64 (i : Int)), (7, true, .int .i64 last)]) (fun (i : Nat) (l : List UInt8) (A : Option Addr) (c : Nat) (last : Int) => [(3, bB b3 (selfP b3) A c l), (900, bR A c l)]) (fun (i : Nat) (l : List UInt8) (A : Option Addr) (c : Nat) (last : Int) => i ≤ t.fu.q ∧ l ++ funcsB (t.fu.l.drop i) last = pB3 t ∧ l.length ≤ 70000 + i * 300 ∧ 4 ≤ l.length ∧ 0 ≤ last ∧ (∀ f, t.fu.l[i]? = some f → last ≤ f.fr)) (fun (i : Nat) (l : List UInt8) (A : Option Addr) (c : Nat) (last : Int) => t.fu.q - i) 0 (pB1 t ++ dig128 (t.fu.q : Int).toNat) x45.1 x45.2 0 (by repeat (first | exact kf_nil | (apply kf_in; focus rfl) | (apply kf_out; focus rfl))) (by repeat (first | exact kl_nil | exact kl_rest (by assumption) rfl | (apply kl_in; focus rfl) | (apply kl_out; focus rfl))) ?_ ?_ ?_ ?_
    · exact ⟨by omega, rfl, by rw [List.length_append]; omega, by rw [List.length_append]; omega, by omega, fun f hf => (hR.funcs 0 f hf).2.1⟩
    · exact ⟨rfl, rfl, trivial⟩
    · exact ⟨rfl, rfl, trivial⟩
    rintro i l A c last ⟨hp1, hp2, hp3, hp4, hp5, hp6⟩
    refine T_seq ?_
    refine T_region ?_
    refine S_ 50 rfl rfl rfl _ (y_bin rfl rfl rfl (fun _ => b_lss)) ?_
    refine S_go (fun _ _ h => h) ?_
    refine T_seq ?_
    refine T_cond rfl (fun h50 => ?_) (fun h50 => ?_)
    · try simp only [decide_eq_true_eq, decide_eq_false_iff_not, Bool.or_eq_true, Bool.or_eq_false_iff, Bool.and_eq_true, Bool.and_eq_false_iff, Bool.not_eq_true', Bool.not_eq_false', Bool.not_eq_true, Bool.not_eq_false, Bool.not_true, Bool.not_false, Int.not_lt, Int.not_le, not_or, not_and, Classical.not_not] at h50
      obtain ⟨f, hx1, hx2⟩ := hok.fu.t.at (i := i) (by omega)
      obtain ⟨hf1, hf2, hf3, hf4⟩ := hR.funcs i f hx1
      have hf5 := hp6 f hx1
      have hw1 := funcB_le (last := last) hf1 (by omega) (by omega) (by omega) (by omega)
      have e1 := digI_le (n := f.fr - last) (by omega)
      have e2 := digI_le (n := f.to - f.fr) (by omega)
      have e3 := wordB_le hf1 (by omega)
      rw [funcB_n, List.length_append] at hw1
      refine T_skip_go (fun _ _ h => h) ?_
      refine T_seq ?_
      refine T_block ?_
      refine T_seq ?_
      refine T_region ?_
      refine S_ 51 rfl rfl rfl _ (y_indexAddr rfl rfl rfl Tryd.underlying23 sz80 (fun hg => hok.fu.t.isSome (by omega)) (fun _ => by omega)) ?_
      refine S_ 52 rfl rfl rfl _ (y_loadT rfl rfl hok.fu.t (fun _ => rfl) (fun _ => hx1) Tryd.underlying80 rfl sz80) ?_
      refine S_alloc 9 9 rfl rfl rfl rfl z80 ?_
      intro b9
      refine S_store 9 rfl rfl rfl rfl rfl rfl sz80 rfl rfl ?_
      refine S_go (fun _ _ h => h) ?_
      refine T_seq ?_
      refine T_drawsTail 12 (by kernel_rfl) (by kernel_rfl) ?_
      refine D_ 53 rfl rfl rfl _ (y_fieldAddr rfl rfl fa80_1) ?_
      refine D_ 54 rfl rfl rfl _ (y_load 9 rfl rfl rfl rfl Tryd.underlying3 rfl) ?_
      refine D_ 55 rfl rfl rfl _ (y_move rfl rfl) ?_
      refine D_ 56 rfl rfl rfl _ (y_bin rfl rfl rfl (fun hg => b_sub (by omega))) ?_
      refine D_ 57 rfl rfl rfl _ (y_call rfl rfl rfl cf62 (fun _ w _ => number_any _ (by omega) (by omega) w)) ?_
      refine D_ 58 rfl rfl rfl _ (y_fieldAddr rfl rfl fa80_2) ?_
      refine D_ 59 rfl rfl rfl _ (y_load 9 rfl rfl rfl rfl Tryd.underlying3 rfl) ?_
      refine D_ 60 rfl rfl rfl _ (y_fieldAddr rfl rfl fa80_1) ?_
      refine D_ 61 rfl rfl rfl _ (y_load 9 rfl rfl rfl rfl Tryd.underlying3 rfl) ?_
      refine D_ 62 rfl rfl rfl _ (y_bin rfl rfl rfl (fun hg => b_sub (by omega))) ?_
      refine D_ 63 rfl rfl rfl _ (y_call rfl rfl rfl cf62 (fun _ w _ => number_any _ (by omega) (by omega) w)) ?_
      refine D_ 64 rfl rfl rfl _ (y_bin rfl rfl rfl (fun hg => b_adds (by first | omega | (simp only [List.length_append, List.length_cons, List.length_nil]; omega)))) ?_
      refine D_tail ?_
      refine S_callM 65 [(0, 3), (1, 900)] (X := Option Addr × Nat) rfl rfl rfl rfl rfl rfl rfl cf61 rfl (fun _ => .tuple #[.int .i64 (funcN last f).length, .nilIface]) (fun _ => True) (fun z0 => [(0, bB b3 (selfP b3) z0.1 z0.2 (l ++ funcN last f)), (1, bR z0.1 z0.2 (l ++ funcN last f))]) (fun _ => rfl) (fun _ => rfl) (fun K1 hK1 w hM => (WStr_any hK1 b3 _ _ _ (l) (funcN last f) (.inr rfl) (by omega) w hM).mono fun e w1 h => h.elim fun x h => ⟨x, h.1, trivial, h.2.2⟩) ?_
      intro x65 hx65
      refine S_go (fun _ _ h => h) ?_
      refine T_seq ?_
      refine T_region ?_
      refine S_ 66 rfl rfl rfl _ (y_move rfl rfl) ?_
      refine S_ 67 rfl rfl rfl _ (y_fieldAddr rfl rfl fa80_0) ?_
      refine S_ 68 rfl rfl rfl _ (y_load 9 rfl rfl rfl rfl Tryd.underlying9 rfl) ?_
      refine S_callM 69 [(0, 3), (1, 900)] (X := Option Addr × Nat) rfl rfl rfl rfl rfl rfl rfl cf60 rfl (fun _ => .tuple #[]) (fun _ => True) (fun z0 => [(0, bB b3 (selfP b3) z0.1 z0.2 ((l ++ funcN last f) ++ wordB f.name)), (1, bR z0.1 z0.2 ((l ++ funcN last f) ++ wordB f.name))]) (fun _ => rfl) (fun _ => rfl) (fun K1 hK1 w hM => (NameC_any hK1 b3 _ _ _ ((l ++ funcN last f)) (f.name) (.inr rfl) (by omega) (by rw [List.length_append]; omega) w hM).mono fun e w1 h => h.elim fun x h => ⟨x, h.1, trivial, h.2⟩) ?_
      intro x69 hx69
      refine S_go (fun _ _ h => h) ?_
      refine T_region ?_
      refine S_ 70 rfl rfl rfl _ (y_fieldAddr rfl rfl fa80_2) ?_
      refine S_ 71 rfl rfl rfl _ (y_load 9 rfl rfl rfl rfl Tryd.underlying3 rfl) ?_
      refine S_ 7 rfl rfl rfl _ (y_assign rfl rfl) ?_
      refine S_go (fun _ _ h => h) ?_
      refine T_region ?_
      refine S_ 72 rfl rfl rfl _ (y_bin rfl rfl rfl (fun hg => b_add (by omega))) ?_
      refine S_ 49 rfl rfl rfl _ (y_move rfl rfl) ?_
      refine S_nil (nextK5 (kf := [(7, 7), (9, 9), (49, 72)]) (kl := [(3, 3), (7, 7), (9, 9), (49, 72), (900, 900)]) (i + 1) ((l ++ funcN last f) ++ wordB f.name) x69.1 x69.2 f.to (by repeat (first | exact kf_nil | (apply kf_in; focus rfl) | (apply kf_out; focus rfl))) (by repeat (first | exact kl_nil | exact kl_rest (by assumption) rfl | (apply kl_in; focus rfl) | (apply kl_out; focus rfl))) ?_ ?_ ?_ ?_)
      · omega
      · exact ⟨by omega, by rw [← hp2, hx2, funcsB, funcB_n]; simp only [List.append_assoc], by simp only [List.length_append]; omega, by simp only [List.length_append]; omega, by omega, fun g hg => hR.rise i f g hx1 hg⟩
      · exact ⟨rfl, rfl, trivial⟩
      · exact ⟨rfl, rfl, trivial⟩
    · try simp only [decide_eq_true_eq, decide_eq_false_iff_not, Bool.or_eq_true, Bool.or_eq_false_iff, Bool.and_eq_true, Bool.and_eq_false_iff, Bool.not_eq_true', Bool.not_eq_false', Bool.not_eq_true, Bool.not_eq_false, Bool.not_true, Bool.not_false, Int.not_lt, Int.not_le, not_or, not_and, Classical.not_not] at h50
      have e1 : l = pB3 t := by rw [hok.fu.t.end (by omega)] at hp2; simpa [funcsB] using hp2
      subst e1
      have hd2 := digI_le (n := t.ro.q) (by omega)
      refine T_exit_go (fun _ _ h => h) ?_
      refine T_seq ?_
      refine T_region ?_
      refine S_ 73 rfl rfl rfl _ (y_fieldAddr rfl rfl fa27_4) ?_
      refine S_ 74 rfl rfl rfl _ (y_load 1 rfl rfl rfl rfl Tryd.underlying24 rfl) ?_
      refine S_ 75 rfl rfl rfl _ (y_len_slice rfl rfl Tryd.underlying24) ?_
      refine S_ 76 rfl rfl rfl _ (y_call rfl rfl rfl cf62 (fun _ w _ => number_any _ (by omega) (by omega) w)) ?_
      refine S_callM 77 [(0, 3), (1, 900)] (X := Option Addr × Nat) rfl rfl rfl rfl rfl rfl rfl cf61 rfl (fun _ => .tuple #[.int .i64 (dig128 (t.ro.q : Int).toNat).length, .nilIface]) (fun _ => True) (fun z0 => [(0, bB b3 (selfP b3) z0.1 z0.2 (pB3 t ++ dig128 (t.ro.q : Int).toNat)), (1, bR z0.1 z0.2 (pB3 t ++ dig128 (t.ro.q : Int).toNat))]) (fun _ => rfl) (fun _ => rfl) (fun K1 hK1 w hM => (WStr_any hK1 b3 _ _ _ (pB3 t) (dig128 (t.ro.q : Int).toNat) (.inr rfl) (by omega) w hM).mono fun e w1 h => h.elim fun x h => ⟨x, h.1, trivial, h.2.2⟩) ?_
      intro x77 hx77
      refine S_go (fun _ _ h => h) ?_
      refine T_seq ?_
      refine T_region ?_
      refine S_ 78 rfl rfl rfl _ (y_build (zv := .agg #[.int .i64 0, .int .i64 0, .int .i64 0]) (pl := [(0, 1), (1, 1), (2, 1)]) (out := [.int .i64 0, .int .i64 0, .int .i64 0]) rfl rfl Tryd.underlying98 z98 (by kernel_rfl) rfl) ?_
      refine S_alloc 10 10 rfl rfl rfl rfl z98 ?_
      intro b10
      refine S_store 10 rfl rfl rfl rfl rfl rfl sz98 rfl rfl ?_
      refine S_go (fun _ _ h => h) ?_
      refine T_seq ?_
      refine T_seq ?_
      refine T_region ?_
      refine S_ 79 rfl rfl rfl _ (y_fieldAddr rfl rfl fa27_4) ?_
      refine S_ 80 rfl rfl rfl _ (y_load 1 rfl rfl rfl rfl Tryd.underlying24 rfl) ?_
      refine S_ 81 rfl rfl rfl _ (y_len_slice rfl rfl Tryd.underlying24) ?_
      refine S_ 82 rfl rfl rfl _ (y_move rfl rfl) ?_
      refine S_go (fun _ _ h => h) ?_
      refine T_block ?_
      refine T_loopK5 (kf := [(12, 12), (82, 108)]) (kl := [(3, 3), (10, 10), (12, 12), (82, 108), (900, 900)]) (fun (i : Nat) (l : List UInt8) (A : Option Addr) (c : Nat) (b : SRow) => [(82, true, .int .i64 (i : Int))]) (fun (i : Nat) (l : List UInt8) (A : Option Addr) (c : Nat) (b : SRow) => [(3, bB b3 (selfP b3) A c l), (900, bR A c l), (10, .blk b10 (IsBox (SRow.enc b) 98))]) (fun (i : Nat) (l : List UInt8) (A : Option Addr) (c : Nat) (b : SRow) => i ≤ t.ro.q ∧ l ++ rowsB (t.ro.l.drop i) b = pB5 t ∧ l.length ≤ 400000 + i * 300 ∧ 4 ≤ l.length ∧ (0 ≤ b.pos ∧ b.pos < t.size ∧ -1 ≤ b.fi ∧ b.fi ≤ 199 ∧ 0 ≤ b.ln ∧ b.ln ≤ 9999999) ∧ (∀ r, t.ro.l[i]? = some r → b.pos ≤ r.pos)) (fun (i : Nat) (l : List UInt8) (A : Option Addr) (c : Nat) (b : SRow) => t.ro.q - i) 0 (pB3 t ++ dig128 (t.ro.q : Int).toNat) x77.1 x77.2 rowZ (by repeat (first | exact kf_nil | (apply kf_in; focus rfl) | (apply kf_out; focus rfl))) (by repeat (first | exact kl_nil | exact kl_rest (by assumption) rfl | (apply kl_in; focus rfl) | (apply kl_out; focus rfl))) ?_ ?_ ?_ ?_
      · exact ⟨by omega, rfl, by rw [List.length_append]; omega, by rw [List.length_append]; omega, by simp only [rowZ]; omega, fun r hr => (hR.rows 0 r hr).1⟩
      · exact ⟨rfl, trivial⟩
      · exact ⟨rfl, rfl, rfl, trivial⟩
      rintro i l A c b ⟨hp1, hp2, hp3, hp4, hp5, hp6⟩
      refine T_seq ?_
      refine T_region ?_
      refine S_ 83 rfl rfl rfl _ (y_bin rfl rfl rfl (fun _ => b_lss)) ?_
      refine S_go (fun _ _ h => h) ?_
      refine T_seq ?_
      refine T_cond rfl (fun h83 => ?_) (fun h83 => ?_)
      · try simp only [decide_eq_true_eq, decide_eq_false_iff_not, Bool.or_eq_true, Bool.or_eq_false_iff, Bool.and_eq_true, Bool.and_eq_false_iff, Bool.not_eq_true', Bool.not_eq_false', Bool.not_eq_true, Bool.not_eq_false, Bool.not_true, Bool.not_false, Int.not_lt, Int.not_le, not_or, not_and, Classical.not_not] at h83
        obtain ⟨r, hx1, hx2⟩ := hok.ro.t.at (i := i) (by omega)
        have hr1 := hR.rows i r hx1
        have hw1 := rowB_le (b := b) (r := r) (by omega) (by omega)
        have e1 := digI_le (n := r.pos - b.pos) (by omega)
        have e2 := signB_le (d := r.fi - b.fi) (by omega)
        have e3 := signB_le (d := r.ln - b.ln) (by omega)
        have hr3 := hp6 r hx1
        refine T_skip_go (fun _ _ h => h) ?_
        refine T_seq ?_
        refine T_block ?_
        refine T_seq ?_
        refine T_region ?_
        refine S_ 84 rfl rfl rfl _ (y_indexAddr rfl rfl rfl Tryd.underlying24 sz98 (fun hg => hok.ro.t.isSome (by omega)) (fun _ => by omega)) ?_
        refine S_ 85 rfl rfl rfl _ (y_loadT rfl rfl hok.ro.t (fun _ => rfl) (fun _ => hx1) Tryd.underlying98 rfl sz98) ?_
        refine S_alloc 12 12 rfl rfl rfl rfl z98 ?_
        intro b12
        refine S_store 12 rfl rfl rfl rfl rfl rfl sz98 rfl rfl ?_
        refine S_go (fun _ _ h => h) ?_
        refine T_seq ?_
        refine T_drawsTail 20 (by kernel_rfl) (by kernel_rfl) ?_
        refine D_ 86 rfl rfl rfl _ (y_fieldAddr rfl rfl fa98_0) ?_
        refine D_ 87 rfl rfl rfl _ (y_load 12 rfl rfl rfl rfl Tryd.underlying3 rfl) ?_
        refine D_ 88 rfl rfl rfl _ (y_fieldAddr rfl rfl fa98_0) ?_
        refine D_ 89 rfl rfl rfl _ (y_load 10 rfl rfl rfl rfl Tryd.underlying3 rfl) ?_
        refine D_ 90 rfl rfl rfl _ (y_bin rfl rfl rfl (fun hg => b_sub (by omega))) ?_
        refine D_ 91 rfl rfl rfl _ (y_call rfl rfl rfl cf62 (fun _ w _ => number_any _ (by omega) (by omega) w)) ?_
        refine D_ 92 rfl rfl rfl _ (y_fieldAddr rfl rfl fa98_1) ?_
        refine D_ 93 rfl rfl rfl _ (y_load 12 rfl rfl rfl rfl Tryd.underlying3 rfl) ?_
        refine D_ 94 rfl rfl rfl _ (y_fieldAddr rfl rfl fa98_1) ?_
        refine D_ 95 rfl rfl rfl _ (y_load 10 rfl rfl rfl rfl Tryd.underlying3 rfl) ?_
        refine D_ 96 rfl rfl rfl _ (y_bin rfl rfl rfl (fun hg => b_sub (by omega))) ?_
        refine D_ 97 rfl rfl rfl _ (y_call rfl rfl rfl cf63 (fun _ w _ => rsigned_any _ (by omega) w)) ?_
        refine D_ 98 rfl rfl rfl _ (y_bin rfl rfl rfl (fun hg => b_adds (by first | omega | (simp only [List.length_append, List.length_cons, List.length_nil]; omega)))) ?_
        refine D_ 99 rfl rfl rfl _ (y_fieldAddr rfl rfl fa98_2) ?_
        refine D_ 100 rfl rfl rfl _ (y_load 12 rfl rfl rfl rfl Tryd.underlying3 rfl) ?_
        refine D_ 101 rfl rfl rfl _ (y_fieldAddr rfl rfl fa98_2) ?_
        refine D_ 102 rfl rfl rfl _ (y_load 10 rfl rfl rfl rfl Tryd.underlying3 rfl) ?_
        refine D_ 103 rfl rfl rfl _ (y_bin rfl rfl rfl (fun hg => b_sub (by omega))) ?_
        refine D_ 104 rfl rfl rfl _ (y_call rfl rfl rfl cf63 (fun _ w _ => rsigned_any _ (by omega) w)) ?_
        refine D_ 105 rfl rfl rfl _ (y_bin rfl rfl rfl (fun hg => b_adds (by first | omega | (simp only [List.length_append, List.length_cons, List.length_nil]; omega)))) ?_
        refine D_tail ?_
        refine S_callM 106 [(0, 3), (1, 900)] (X := Option Addr × Nat) rfl rfl rfl rfl rfl rfl rfl cf61 rfl (fun _ => .tuple #[.int .i64 (rowB b r).length, .nilIface]) (fun _ => True) (fun z0 => [(0, bB b3 (selfP b3) z0.1 z0.2 (l ++ rowB b r)), (1, bR z0.1 z0.2 (l ++ rowB b r))]) (fun _ => rfl) (fun _ => rfl) (fun K1 hK1 w hM => (WStr_any hK1 b3 _ _ _ (l) (rowB b r) (.inr rfl) (by omega) w hM).mono fun e w1 h => h.elim fun x h => ⟨x, h.1, trivial, h.2.2⟩) ?_
        intro x106 hx106
        refine S_go (fun _ _ h => h) ?_
        refine T_region ?_
        refine S_ 107 rfl rfl rfl _ (y_loadA 12 rfl rfl rfl Tryd.underlying98 rfl sz98) ?_
        refine S_store 10 rfl rfl rfl rfl rfl rfl sz98 rfl rfl ?_
        refine S_go (fun _ _ h => h) ?_
        refine T_region ?_
        refine S_ 108 rfl rfl rfl _ (y_bin rfl rfl rfl (fun hg => b_add (by omega))) ?_
        refine S_ 82 rfl rfl rfl _ (y_move rfl rfl) ?_
        refine S_nil (nextK5 (kf := [(12, 12), (82, 108)]) (kl := [(3, 3), (10, 10), (12, 12), (82, 108), (900, 900)]) (i + 1) (l ++ rowB b r) x106.1 x106.2 r (by repeat (first | exact kf_nil | (apply kf_in; focus rfl) | (apply kf_out; focus rfl))) (by repeat (first | exact kl_nil | exact kl_rest (by assumption) rfl | (apply kl_in; focus rfl) | (apply kl_out; focus rfl))) ?_ ?_ ?_ ?_)
        · omega
        · exact ⟨by omega, by rw [← hp2, hx2, rowsB, List.append_assoc], by rw [List.length_append]; omega, by rw [List.length_append]; omega, hr1, fun g hg => by have := hR.rrise i (i + 1) r g hx1 hg (by omega); omega⟩
        · exact ⟨rfl, trivial⟩
        · exact ⟨rfl, rfl, rfl, trivial⟩
      · try simp only [decide_eq_true_eq, decide_eq_false_iff_not, Bool.or_eq_true, Bool.or_eq_false_iff, Bool.and_eq_true, Bool.and_eq_false_iff, Bool.not_eq_true', Bool.not_eq_false', Bool.not_eq_true, Bool.not_eq_false, Bool.not_true, Bool.not_false, Int.not_lt, Int.not_le, not_or, not_and, Classical.not_not] at h83
        have e1 : l = pB5 t := by rw [hok.ro.t.end (by omega)] at hp2; simpa [rowsB] using hp2
        subst e1
        have hd3 := digI_le (n := t.ca.q) (by omega)
        refine T_exit_go (fun _ _ h => h) ?_
        refine T_seq ?_
        refine T_region ?_
        refine S_ 109 rfl rfl rfl _ (y_fieldAddr rfl rfl fa27_5) ?_
        refine S_ 110 rfl rfl rfl _ (y_load 1 rfl rfl rfl rfl Tryd.underlying25 rfl) ?_
        refine S_ 111 rfl rfl rfl _ (y_len_slice rfl rfl Tryd.underlying25) ?_
        refine S_ 112 rfl rfl rfl _ (y_call rfl rfl rfl cf62 (fun _ w _ => number_any _ (by omega) (by omega) w)) ?_
        refine S_callM 113 [(0, 3), (1, 900)] (X := Option Addr × Nat) rfl rfl rfl rfl rfl rfl rfl cf61 rfl (fun _ => .tuple #[.int .i64 (dig128 (t.ca.q : Int).toNat).length, .nilIface]) (fun _ => True) (fun z0 => [(0, bB b3 (selfP b3) z0.1 z0.2 (pB5 t ++ dig128 (t.ca.q : Int).toNat)), (1, bR z0.1 z0.2 (pB5 t ++ dig128 (t.ca.q : Int).toNat))]) (fun _ => rfl) (fun _ => rfl) (fun K1 hK1 w hM => (WStr_any hK1 b3 _ _ _ (pB5 t) (dig128 (t.ca.q : Int).toNat) (.inr rfl) (by omega) w hM).mono fun e w1 h => h.elim fun x h => ⟨x, h.1, trivial, h.2.2⟩) ?_
        intro x113 hx113
        refine S_go (fun _ _ h => h) ?_
        refine T_seq ?_
        refine T_region ?_
        refine S_ 13 rfl rfl rfl _ (y_assign rfl rfl) ?_
        refine S_go (fun _ _ h => h) ?_
        refine T_seq ?_
        refine T_seq ?_
        refine T_region ?_
        refine S_ 114 rfl rfl rfl _ (y_fieldAddr rfl rfl fa27_5) ?_
        refine S_ 115 rfl rfl rfl _ (y_load 1 rfl rfl rfl rfl Tryd.underlying25 rfl) ?_
        refine S_ 116 rfl rfl rfl _ (y_len_slice rfl rfl Tryd.underlying25) ?_
        refine S_ 117 rfl rfl rfl _ (y_move rfl rfl) ?_
        refine S_go (fun _ _ h => h) ?_
        refine T_block ?_
        refine T_loopK5 (kf := [(13, 13), (15, 15), (117, 148)]) (kl := [(3, 3), (13, 13), (15, 15), (117, 148), (900, 900)]) (fun (i : Nat) (l : List UInt8) (A : Option Addr) (c : Nat) (last : Int) => [(117, true, .int .i64 (i : Int)), (13, true, .int .i64 last)]) (fun (i : Nat) (l : List UInt8) (A : Option Addr) (c : Nat) (last : Int) => [(3, bB b3 (selfP b3) A c l), (900, bR A c l)]) (fun (i : Nat) (l : List UInt8) (A : Option Addr) (c : Nat) (last : Int) => i ≤ t.ca.q ∧ l ++ callsB (t.ca.l.drop i) last = tabB t ∧ l.length ≤ 2000000 + i * 300 ∧ 4 ≤ l.length ∧ 0 ≤ last ∧ (∀ f, t.ca.l[i]? = some f → last ≤ f.fr)) (fun (i : Nat) (l : List UInt8) (A : Option Addr) (c : Nat) (last : Int) => t.ca.q - i) 0 (pB5 t ++ dig128 (t.ca.q : Int).toNat) x113.1 x113.2 0 (by repeat (first | exact kf_nil | (apply kf_in; focus rfl) | (apply kf_out; focus rfl))) (by repeat (first | exact kl_nil | exact kl_rest (by assumption) rfl | (apply kl_in; focus rfl) | (apply kl_out; focus rfl))) ?_ ?_ ?_ ?_
        · exact ⟨by omega, rfl, by rw [List.length_append]; omega, by rw [List.length_append]; omega, by omega, fun f hf => (hR.calls 0 f hf).2.1⟩
        · exact ⟨rfl, rfl, trivial⟩
        · exact ⟨rfl, rfl, trivial⟩
        rintro i l A c last ⟨hp1, hp2, hp3, hp4, hp5, hp6⟩
        refine T_seq ?_
        refine T_region ?_
        refine S_ 118 rfl rfl rfl _ (y_bin rfl rfl rfl (fun _ => b_lss)) ?_
        refine S_go (fun _ _ h => h) ?_
        refine T_seq ?_
        refine T_cond rfl (fun h118 => ?_) (fun h118 => ?_)
        · try simp only [decide_eq_true_eq, decide_eq_false_iff_not, Bool.or_eq_true, Bool.or_eq_false_iff, Bool.and_eq_true, Bool.and_eq_false_iff, Bool.not_eq_true', Bool.not_eq_false', Bool.not_eq_true, Bool.not_eq_false, Bool.not_true, Bool.not_false, Int.not_lt, Int.not_le, not_or, not_and, Classical.not_not] at h118
          obtain ⟨c0, hx1, hx2⟩ := hok.ca.t.at (i := i) (by omega)
          obtain ⟨hc1, hc2⟩ := hR.calls i c0 hx1
          have hc3 := hp6 c0 hx1
          have hw1 := callB_le (last := last) hc1 (by omega) (by omega)
          have e1 := digI_le (n := c0.fr - last) (by omega)
          have e2 := digI_le (n := c0.to - c0.fr) (by omega)
          have e4 := digI_le (n := c0.fi) (by omega)
          have e5 := digI_le (n := c0.ln) (by omega)
          have e3 := wordB_le hc1 (by omega)
          rw [callB_n, List.length_append] at hw1
          refine T_skip_go (fun _ _ h => h) ?_
          refine T_seq ?_
          refine T_block ?_
          refine T_seq ?_
          refine T_region ?_
          refine S_ 119 rfl rfl rfl _ (y_indexAddr rfl rfl rfl Tryd.underlying25 sz110 (fun hg => hok.ca.t.isSome (by omega)) (fun _ => by omega)) ?_
          refine S_ 120 rfl rfl rfl _ (y_loadT rfl rfl hok.ca.t (fun _ => rfl) (fun _ => hx1) Tryd.underlying110 rfl sz110) ?_
          refine S_alloc 15 15 rfl rfl rfl rfl z110 ?_
          intro b15
          refine S_store 15 rfl rfl rfl rfl rfl rfl sz110 rfl rfl ?_
          refine S_go (fun _ _ h => h) ?_
          refine T_seq ?_
          refine T_drawsTail 20 (by kernel_rfl) (by kernel_rfl) ?_
          refine D_ 121 rfl rfl rfl _ (y_fieldAddr rfl rfl fa110_1) ?_
          refine D_ 122 rfl rfl rfl _ (y_load 15 rfl rfl rfl rfl Tryd.underlying3 rfl) ?_
          refine D_ 123 rfl rfl rfl _ (y_move rfl rfl) ?_
          refine D_ 124 rfl rfl rfl _ (y_bin rfl rfl rfl (fun hg => b_sub (by omega))) ?_
          refine D_ 125 rfl rfl rfl _ (y_call rfl rfl rfl cf62 (fun _ w _ => number_any _ (by omega) (by omega) w)) ?_
          refine D_ 126 rfl rfl rfl _ (y_fieldAddr rfl rfl fa110_2) ?_
          refine D_ 127 rfl rfl rfl _ (y_load 15 rfl rfl rfl rfl Tryd.underlying3 rfl) ?_
          refine D_ 128 rfl rfl rfl _ (y_fieldAddr rfl rfl fa110_1) ?_
          refine D_ 129 rfl rfl rfl _ (y_load 15 rfl rfl rfl rfl Tryd.underlying3 rfl) ?_
          refine D_ 130 rfl rfl rfl _ (y_bin rfl rfl rfl (fun hg => b_sub (by omega))) ?_
          refine D_ 131 rfl rfl rfl _ (y_call rfl rfl rfl cf62 (fun _ w _ => number_any _ (by omega) (by omega) w)) ?_
          refine D_ 132 rfl rfl rfl _ (y_bin rfl rfl rfl (fun hg => b_adds (by first | omega | (simp only [List.length_append, List.length_cons, List.length_nil]; omega)))) ?_
          refine D_ 133 rfl rfl rfl _ (y_fieldAddr rfl rfl fa110_3) ?_
          refine D_ 134 rfl rfl rfl _ (y_load 15 rfl rfl rfl rfl Tryd.underlying3 rfl) ?_
          refine D_ 135 rfl rfl rfl _ (y_call rfl rfl rfl cf62 (fun _ w _ => number_any _ (by omega) (by omega) w)) ?_
          refine D_ 136 rfl rfl rfl _ (y_bin rfl rfl rfl (fun hg => b_adds (by first | omega | (simp only [List.length_append, List.length_cons, List.length_nil]; omega)))) ?_
          refine D_ 137 rfl rfl rfl _ (y_fieldAddr rfl rfl fa110_4) ?_
          refine D_ 138 rfl rfl rfl _ (y_load 15 rfl rfl rfl rfl Tryd.underlying3 rfl) ?_
          refine D_ 139 rfl rfl rfl _ (y_call rfl rfl rfl cf62 (fun _ w _ => number_any _ (by omega) (by omega) w)) ?_
          refine D_ 140 rfl rfl rfl _ (y_bin rfl rfl rfl (fun hg => b_adds (by first | omega | (simp only [List.length_append, List.length_cons, List.length_nil]; omega)))) ?_
          refine D_tail ?_
          refine S_callM 141 [(0, 3), (1, 900)] (X := Option Addr × Nat) rfl rfl rfl rfl rfl rfl rfl cf61 rfl (fun _ => .tuple #[.int .i64 (callN last c0).length, .nilIface]) (fun _ => True) (fun z0 => [(0, bB b3 (selfP b3) z0.1 z0.2 (l ++ callN last c0)), (1, bR z0.1 z0.2 (l ++ callN last c0))]) (fun _ => rfl) (fun _ => rfl) (fun K1 hK1 w hM => (WStr_any hK1 b3 _ _ _ (l) (callN last c0) (.inr rfl) (by omega) w hM).mono fun e w1 h => h.elim fun x h => ⟨x, h.1, trivial, h.2.2⟩) ?_
          intro x141 hx141
          refine S_go (fun _ _ h => h) ?_
          refine T_seq ?_
          refine T_region ?_
          refine S_ 142 rfl rfl rfl _ (y_move rfl rfl) ?_
          refine S_ 143 rfl rfl rfl _ (y_fieldAddr rfl rfl fa110_0) ?_
          refine S_ 144 rfl rfl rfl _ (y_load 15 rfl rfl rfl rfl Tryd.underlying9 rfl) ?_
          refine S_callM 145 [(0, 3), (1, 900)] (X := Option Addr × Nat) rfl rfl rfl rfl rfl rfl rfl cf60 rfl (fun _ => .tuple #[]) (fun _ => True) (fun z0 => [(0, bB b3 (selfP b3) z0.1 z0.2 ((l ++ callN last c0) ++ wordB c0.name)), (1, bR z0.1 z0.2 ((l ++ callN last c0) ++ wordB c0.name))]) (fun _ => rfl) (fun _ => rfl) (fun K1 hK1 w hM => (NameC_any hK1 b3 _ _ _ ((l ++ callN last c0)) (c0.name) (.inr rfl) (by omega) (by rw [List.length_append]; omega) w hM).mono fun e w1 h => h.elim fun x h => ⟨x, h.1, trivial, h.2⟩) ?_
          intro x145 hx145
          refine S_go (fun _ _ h => h) ?_
          refine T_region ?_
          refine S_ 146 rfl rfl rfl _ (y_fieldAddr rfl rfl fa110_1) ?_
          refine S_ 147 rfl rfl rfl _ (y_load 15 rfl rfl rfl rfl Tryd.underlying3 rfl) ?_
          refine S_ 13 rfl rfl rfl _ (y_assign rfl rfl) ?_
          refine S_go (fun _ _ h => h) ?_
          refine T_region ?_
          refine S_ 148 rfl rfl rfl _ (y_bin rfl rfl rfl (fun hg => b_add (by omega))) ?_
          refine S_ 117 rfl rfl rfl _ (y_move rfl rfl) ?_
          refine S_nil (nextK5 (kf := [(13, 13), (15, 15), (117, 148)]) (kl := [(3, 3), (13, 13), (15, 15), (117, 148), (900, 900)]) (i + 1) ((l ++ callN last c0) ++ wordB c0.name) x145.1 x145.2 c0.fr (by repeat (first | exact kf_nil | (apply kf_in; focus rfl) | (apply kf_out; focus rfl))) (by repeat (first | exact kl_nil | exact kl_rest (by assumption) rfl | (apply kl_in; focus rfl) | (apply kl_out; focus rfl))) ?_ ?_ ?_ ?_)
          · omega
          · exact ⟨by omega, by rw [← hp2, hx2, callsB, callB_n]; simp only [List.append_assoc], by simp only [List.length_append]; omega, by simp only [List.length_append]; omega, by omega, fun g hg => hR.crise i c0 g hx1 hg⟩
          · exact ⟨rfl, rfl, trivial⟩
          · exact ⟨rfl, rfl, trivial⟩
        · try simp only [decide_eq_true_eq, decide_eq_false_iff_not, Bool.or_eq_true, Bool.or_eq_false_iff, Bool.and_eq_true, Bool.and_eq_false_iff, Bool.not_eq_true', Bool.not_eq_false', Bool.not_eq_true, Bool.not_eq_false, Bool.not_true, Bool.not_false, Int.not_lt, Int.not_le, not_or, not_and, Classical.not_not] at h118
          have e1 : l = tabB t := by rw [hok.ca.t.end (by omega)] at hp2; simpa [callsB] using hp2
          subst e1
          refine T_exit_go (fun _ _ h => h) ?_
          refine T_seq ?_
          refine T_region ?_
          refine S_callM 149 [(0, 3), (1, 900)] (X := Unit) rfl rfl rfl rfl rfl rfl rfl cf64 rfl (fun _ => str (tabB t)) (fun _ => True) (fun _ => [(1, bR none 0 []), (0, bB b3 (selfP b3) A c (tabB t))]) (fun _ => rfl) (fun _ => rfl) (fun K1 hK1 w hM => (BStr_any hK1 b3 _ _ _ (tabB t) (by omega) (by omega) w hM).mono fun e w1 h => ⟨(), h.1, trivial, h.2⟩) ?_
          intro _ _
          refine S_ 2 rfl rfl rfl _ (y_assign rfl rfl) ?_
          refine S_go (fun _ _ h => h) ?_
          refine T_ret (fun a w hF hM => hRb a w (post1 rfl rfl (fun w hM => ?_) a w hF hM))
          exact ⟨rfl, hM.below⟩
end Go.Proofs.YtofolhnecfkjkaaDoor
