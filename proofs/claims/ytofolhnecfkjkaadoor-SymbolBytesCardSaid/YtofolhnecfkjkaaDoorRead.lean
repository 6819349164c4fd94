/- symbol.Read. Conditions: those of each theorem. -/
import Derived.Test.YtofolhnecfkjkaaDoorRdT
import Derived.Test.YtofolhnecfkjkaaDoorChecks
namespace Go.Proofs.YtofolhnecfkjkaaDoor
set_option linter.unusedSimpArgs false
set_option linter.unusedVariables false
set_option maxRecDepth 20000
open Go.RowKit Go.Eng
def PT0 : PT := ⟨[], 0, [], [], [], []⟩
def Tab0 : Tab := ⟨[], 0, ⟨none, 0, 0, []⟩, ⟨none, 0, 0, []⟩, ⟨none, 0, 0, []⟩, ⟨none, 0, 0, []⟩⟩
theorem slOk_nil {α : Type} {enc : α → List Value} {size : Nat} {w : World} : Sl.Ok enc size w ⟨none, 0, 0, []⟩ := ⟨⟨⟨by simp, fun h => absurd h (by simp)⟩, rfl⟩, Nat.le_refl _⟩
theorem Tab0.ok {w : World} : Tab0.Ok w := ⟨slOk_nil, slOk_nil, slOk_nil, slOk_nil, by simp [Tab0], by simp [Tab0]⟩
def tabNoP (p : PT) : Int := tabNo ⟨p.id, p.size, ⟨none, p.fi.length, 0, p.fi⟩, ⟨none, p.fu.length, 0, p.fu⟩, ⟨none, p.ro.length, 0, p.ro⟩, ⟨none, p.ca.length, 0, p.ca⟩⟩
theorem tabNo_pl {t : Tab} {w : World} (h : t.Ok w) : tabNo t = tabNoP t.pl := by
  simp only [tabNo, tabNoP, Tab.pl, h.fi.t.len, h.fu.t.len, h.ro.t.len, h.ca.t.len]
def readNo (s : List UInt8) : Int := if (1000000 : Int) < s.length then 4 else (parseT s).elim 8 tabNoP
def readP (s : List UInt8) : PT := if readNo s = 0 then (parseT s).getD PT0 else PT0
theorem read_big {s : List UInt8} (h : (1000000 : Int) < s.length) : readNo s = 4 ∧ readP s = PT0 := by
  have e : readNo s = 4 := if_pos h
  exact ⟨e, if_neg (by rw [e]; decide)⟩
theorem read_none {s : List UInt8} {p : PT} (h : (s.length : Int) ≤ 1000000) (hr : RdOk s p false) : readNo s = 8 ∧ readP s = PT0 := by
  have hn : parseT s = none := by
    cases hp : parseT s with
    | none => rfl
    | some u => have := hr.1; rw [hp] at this; cases this
  have e : readNo s = 8 := by rw [readNo, if_neg (by omega), hn]; rfl
  exact ⟨e, if_neg (by rw [e]; decide)⟩
theorem read_some {s : List UInt8} {p : PT} (h : (s.length : Int) ≤ 1000000) (hr : RdOk s p true) : readNo s = tabNoP p ∧ readP s = if tabNoP p = 0 then p else PT0 := by
  have hp := hr.2 rfl
  have e : readNo s = tabNoP p := by rw [readNo, if_neg (by omega), hp]; rfl
  exact ⟨e, by rw [readP, e, hp]; rfl⟩
theorem Read_any {w0 : World} {K : HL} (hK : FromK K) (s : List UInt8) (w : World) (hM0 : Mem w0 ([] ++ K) w) :
    Calls Tryd.prog 24 #[str s] w fun e w' => ∃ o : OT, e = .returned (.tuple #[o.tab.val, .int .i64 (readNo s)]) ∧ (o.tab.pl = readP s ∧ o.small) ∧ Mem w0 ([(908, rF o.fA o.fc o.fl), (909, rU o.uA o.uc o.ul), (910, rR o.rA o.rc o.rl), (911, rC o.cA o.cc o.cl)] ++ K) w' := by
  refine enterM_args (args := [str s]) (F := _) hM0 Tryd.func24 rfl Tryd.ntmps24 rfl rfl ?_
  intro Rb hRb hRn
  refine T_seq ?_
  refine T_region ?_
  refine S_alloc 2 2 rfl rfl rfl rfl z27 ?_
  intro b2
  refine S_ 3 rfl rfl rfl _ (y_assign rfl rfl) ?_
  refine S_go (fun _ _ h => h) ?_
  refine T_seq ?_
  refine T_seq ?_
  refine T_region ?_
  refine S_ 7 rfl rfl rfl _ (y_move rfl rfl) ?_
  refine S_ 8 rfl rfl rfl _ (y_len_str rfl rfl Tryd.underlying9) ?_
  refine S_ 9 rfl rfl rfl _ (y_bin rfl rfl rfl (fun _ => b_gtr)) ?_
  refine S_go (fun _ _ h => h) ?_
  refine T_cond rfl (fun h9 => ?_) (fun h9 => ?_)
  · try simp only [decide_eq_true_eq, decide_eq_false_iff_not, Bool.or_eq_true, Bool.or_eq_false_iff, Bool.and_eq_true, Bool.and_eq_false_iff, Bool.not_eq_true', Bool.not_eq_false', Bool.not_eq_true, Bool.not_eq_false, Bool.not_true, Bool.not_false, Int.not_lt, Int.not_le, not_or, not_and, Classical.not_not] at h9
    refine T_seq ?_
    refine T_region ?_
    refine S_ 10 rfl rfl rfl _ (y_build (zv := .agg #[.string ⟨#[]⟩, .int .i64 0, .slice none 0 0, .slice none 0 0, .slice none 0 0, .slice none 0 0]) (pl := [(0, 1), (1, 1), (2, 1), (3, 1), (4, 1), (5, 1)]) (out := [.string ⟨#[]⟩, .int .i64 0, .slice none 0 0, .slice none 0 0, .slice none 0 0, .slice none 0 0]) rfl rfl Tryd.underlying27 z27 (by kernel_rfl) rfl) ?_
    refine S_store 2 rfl rfl rfl rfl rfl rfl sz27 rfl rfl ?_
    refine S_ 3 rfl rfl rfl _ (y_assign rfl rfl) ?_
    refine S_go (fun _ _ h => h) ?_
    refine T_ret (fun a w hF hM => hRb a w (post_cell 2 rfl rfl rfl rfl Tryd.underlying27 rfl (by exact sz27) (fun w hM => ?_) a w hF hM))
    obtain ⟨e1, e2⟩ := read_big (s := s) (by omega)
    exact ⟨OT0, by rw [e1]; rfl, ⟨e2.symm, OT0.sm⟩, Mem.nil4 (hM.keep (ks := [(0, 999)]) (by repeat (first | exact kl_rest (by assumption) rfl | (apply kl_in; focus rfl))) _ trivial : Mem w0 ([] ++ K) w)⟩
  · try simp only [decide_eq_true_eq, decide_eq_false_iff_not, Bool.or_eq_true, Bool.or_eq_false_iff, Bool.and_eq_true, Bool.and_eq_false_iff, Bool.not_eq_true', Bool.not_eq_false', Bool.not_eq_true, Bool.not_eq_false, Bool.not_true, Bool.not_false, Int.not_lt, Int.not_le, not_or, not_and, Classical.not_not] at h9
    refine T_skip_go (fun _ _ h => h) ?_
    refine T_seq ?_
    refine T_region ?_
    refine S_ 12 rfl rfl rfl _ (y_move rfl rfl) ?_
    refine S_callN 13 [] [(908, 908), (909, 909), (910, 910), (911, 911)] (X := OT × Bool) rfl rfl rfl rfl rfl rfl rfl cf69 rfl (fun z => .tuple #[z.1.tab.val, .bool z.2]) (fun z => RdOk s z.1.tab.pl z.2 ∧ z.1.small) (fun z => [(908, rF z.1.fA z.1.fc z.1.fl), (909, rU z.1.uA z.1.uc z.1.ul), (910, rR z.1.rA z.1.rc z.1.rl), (911, rC z.1.cA z.1.cc z.1.cl)]) (fun _ => rfl) (fun _ => rfl) (fun K1 hK1 w hM => readTable_any hK1 s (by omega) w hM) ?_
    rintro ⟨o, b⟩ hb
    dsimp only at hb
    refine S_ 11 rfl rfl rfl _ (y_move rfl rfl) ?_
    refine S_ 14 rfl rfl rfl _ (y_extract rfl rfl rfl) ?_
    refine S_ 15 rfl rfl rfl _ (y_extract rfl rfl rfl) ?_
    refine S_alloc 4 4 rfl rfl rfl rfl z27 ?_
    intro b4
    refine S_store 4 rfl rfl rfl rfl rfl rfl sz27 rfl rfl ?_
    refine S_ 5 rfl rfl rfl _ (y_assign rfl rfl) ?_
    refine S_go (fun _ _ h => h) ?_
    refine T_seq ?_
    refine T_seq ?_
    refine T_region ?_
    refine S_ 16 rfl rfl rfl _ (y_move rfl rfl) ?_
    refine S_ 17 rfl rfl rfl _ (y_not rfl rfl) ?_
    refine S_go (fun _ _ h => h) ?_
    refine T_cond rfl (fun h17 => ?_) (fun h17 => ?_)
    · skip
      have e : b = false := by simpa using h17
      subst e
      refine T_seq ?_
      refine T_region ?_
      refine S_ 18 rfl rfl rfl _ (y_build (zv := .agg #[.string ⟨#[]⟩, .int .i64 0, .slice none 0 0, .slice none 0 0, .slice none 0 0, .slice none 0 0]) (pl := [(0, 1), (1, 1), (2, 1), (3, 1), (4, 1), (5, 1)]) (out := [.string ⟨#[]⟩, .int .i64 0, .slice none 0 0, .slice none 0 0, .slice none 0 0, .slice none 0 0]) rfl rfl Tryd.underlying27 z27 (by kernel_rfl) rfl) ?_
      refine S_store 2 rfl rfl rfl rfl rfl rfl sz27 rfl rfl ?_
      refine S_ 3 rfl rfl rfl _ (y_assign rfl rfl) ?_
      refine S_go (fun _ _ h => h) ?_
      refine T_ret (fun a w hF hM => hRb a w (post_cell 2 rfl rfl rfl rfl Tryd.underlying27 rfl (by exact sz27) (fun w hM => ?_) a w hF hM))
      obtain ⟨e1, e2⟩ := read_none (by omega) hb.1
      exact ⟨OT0, by rw [e1]; rfl, ⟨e2.symm, OT0.sm⟩, Mem.nil4 (hM.keep (ks := [(0, 999)]) (by repeat (first | exact kl_rest (by assumption) rfl | (apply kl_in; focus rfl))) _ trivial : Mem w0 ([] ++ K) w)⟩
    · skip
      have e : b = true := by simpa using h17
      subst e
      refine T_skip_go (fun _ _ h => h) ?_
      refine T_seq ?_
      refine T_seq ?_
      refine T_region ?_
      refine S_ 19 rfl rfl rfl _ (y_loadA 4 rfl rfl rfl Tryd.underlying27 rfl sz27) ?_
      refine S_ 20 rfl rfl rfl _ (y_call rfl rfl rfl cf13 (fun _ w hM => CheckTable_any o.tab w (OT.ok hM hb.2 rfl rfl rfl rfl))) ?_
      refine S_ 6 rfl rfl rfl _ (y_assign rfl rfl) ?_
      refine S_go (fun _ _ h => h) ?_
      refine T_seq ?_
      refine T_region ?_
      refine S_ 21 rfl rfl rfl _ (y_move rfl rfl) ?_
      refine S_ 22 rfl rfl rfl _ (y_bin rfl rfl rfl (fun _ => b_neq)) ?_
      refine S_go (fun _ _ h => h) ?_
      refine T_cond rfl (fun h22 => ?_) (fun h22 => ?_)
      · try simp only [decide_eq_true_eq, decide_eq_false_iff_not, Bool.or_eq_true, Bool.or_eq_false_iff, Bool.and_eq_true, Bool.and_eq_false_iff, Bool.not_eq_true', Bool.not_eq_false', Bool.not_eq_true, Bool.not_eq_false, Bool.not_true, Bool.not_false, Int.not_lt, Int.not_le, not_or, not_and, Classical.not_not] at h22
        refine T_seq ?_
        refine T_region ?_
        refine S_ 23 rfl rfl rfl _ (y_build (zv := .agg #[.string ⟨#[]⟩, .int .i64 0, .slice none 0 0, .slice none 0 0, .slice none 0 0, .slice none 0 0]) (pl := [(0, 1), (1, 1), (2, 1), (3, 1), (4, 1), (5, 1)]) (out := [.string ⟨#[]⟩, .int .i64 0, .slice none 0 0, .slice none 0 0, .slice none 0 0, .slice none 0 0]) rfl rfl Tryd.underlying27 z27 (by kernel_rfl) rfl) ?_
        refine S_ 24 rfl rfl rfl _ (y_move rfl rfl) ?_
        refine S_store 2 rfl rfl rfl rfl rfl rfl sz27 rfl rfl ?_
        refine S_ 3 rfl rfl rfl _ (y_assign rfl rfl) ?_
        refine S_go (fun _ _ h => h) ?_
        refine T_ret (fun a w hF hM => hRb a w (post_cell 2 rfl rfl rfl rfl Tryd.underlying27 rfl (by exact sz27) (fun w hM => ?_) a w hF hM))
        obtain ⟨e1, e2⟩ := read_some (by omega) hb.1
        have hk := OT.ok hM hb.2 rfl rfl rfl rfl
        rw [← tabNo_pl hk] at e1 e2
        exact ⟨OT0, by rw [e1]; rfl, ⟨by rw [e2, if_neg h22]; rfl, OT0.sm⟩, Mem.nil4 (hM.keep (ks := [(0, 999)]) (by repeat (first | exact kl_rest (by assumption) rfl | (apply kl_in; focus rfl))) _ trivial : Mem w0 ([] ++ K) w)⟩
      · try simp only [decide_eq_true_eq, decide_eq_false_iff_not, Bool.or_eq_true, Bool.or_eq_false_iff, Bool.and_eq_true, Bool.and_eq_false_iff, Bool.not_eq_true', Bool.not_eq_false', Bool.not_eq_true, Bool.not_eq_false, Bool.not_true, Bool.not_false, Int.not_lt, Int.not_le, not_or, not_and, Classical.not_not] at h22
        refine T_skip_go (fun _ _ h => h) ?_
        refine T_seq ?_
        refine T_region ?_
        refine S_ 25 rfl rfl rfl _ (y_loadA 4 rfl rfl rfl Tryd.underlying27 rfl sz27) ?_
        refine S_store 2 rfl rfl rfl rfl rfl rfl sz27 rfl rfl ?_
        refine S_ 3 rfl rfl rfl _ (y_assign rfl rfl) ?_
        refine S_go (fun _ _ h => h) ?_
        refine T_ret (fun a w hF hM => hRb a w (post_cell 2 rfl rfl rfl rfl Tryd.underlying27 rfl (by exact sz27) (fun w hM => ?_) a w hF hM))
        obtain ⟨e1, e2⟩ := read_some (by omega) hb.1
        have hk := OT.ok hM hb.2 rfl rfl rfl rfl
        rw [← tabNo_pl hk] at e1 e2
        exact ⟨o, by rw [e1, h22]; rfl, ⟨by rw [e2, if_pos h22], hb.2⟩, hM.keep (ks := [(0, 999)]) (by repeat (first | exact kl_rest (by assumption) rfl | (apply kl_in; focus rfl))) _ ⟨rfl, rfl, rfl, rfl, trivial⟩⟩
end Go.Proofs.YtofolhnecfkjkaaDoor
