/- Part 4, merged by a program. A rule of what is cleared, made ready: what it finds, what it puts. Conditions: those of each theorem. One string is cleared: what is found in it is masked. Conditions: those of the theorem. Patterns with stars: what they match, the search that goes back to the last star, and the table of all beginnings. Plain lists; no program in sight. Conditions as trees: how deep, how many, whether they are right, equal, plain, and for what they hold. Plain trees; no program in sight. Events opened: from the form's reading to 'Evt.Ok'. No condition. Conditions as they lie in memory, and conditions among the arguments opened. No condition. Conditions: too deep, too many, and whether each is right. Conditions: those of each theorem. Conditions: how many within one another, and the text of one. Conditions: those of each theorem. Conditions: whether each is right, and CheckCond. Conditions: those of each theorem. find.Fits: the greedy search. Condition: the lengths are bounded. event.Matches: a name fits a pattern. Condition: the lengths are bounded. event.Copy: the faults, their frames, the tags and the crumbs are new. Conditions: those of the theorem. What a rule makes of an event, in plain lists. No program in sight. -/
import Derived.Test.YtfmbgaaonfgenaaGreatDoorOpen
import Derived.Test.YtfmbgaaonfgenaaGreatDoorOpnN
import Derived.Test.YtfmbgaaonfgenaaGreatDoorRows
import Derived.Test.YtfmbgaaonfgenaaGreatDoorTail
import Derived.Test.YtfmbgaaonfgenaaGreatDoorCopy
import Derived.Test.YtfmbgaaonfgenaaGreatDoorCnv
import Derived.Test.YtfmbgaaonfgenaaGreatDoorUnb
import Derived.Test.YtfmbgaaonfgenaaGreatDoorPk3
section
namespace Go.Proofs.YtfmbgaaonfgenaaGreatDoor
set_option linter.unusedSimpArgs false
set_option linter.unusedVariables false
set_option maxRecDepth 20000
open Go.RowKit Go.Eng
/-- what a rule finds -/
def fndR (r : SRl) (s : List UInt8) : List Sp := if r.fd = 2 then rowsK digM r.ls s else if r.fd = 4 then rowsK hexM r.ls s else mailsF malM s
theorem fndR_ok (r : SRl) (s : List UInt8) : SpOk s.length 0 (fndR r s) := by
  unfold fndR
  split
  · exact rowsK_ok _ _ _
  · split
    · exact rowsK_ok _ _ _
    · exact mailsF_ok _ _
/-- a rule that masks -/
def MskR (r : SRl) : Prop := (r.fd = 2 ∨ r.fd = 3 ∨ r.fd = 4) ∧ r.dd = 2
structure FindF (r : SRl) (b : Nat) (g : FuncId) (cap : Array Value) : Prop where
  cf : ∀ args w, (callFunc g args).run Tryz.prog w = .ok (.enter g args) w
  any : ∀ (s : List UInt8) (w : World), s.length ≤ 1000000 → CellsM w b r.enc → Calls Tryz.prog g (#[str s] ++ cap) w fun e w' => ∃ A c, e = .returned (.slice A (fndR r s).length c) ∧ ownSp w.heap.size w' A c (fndR r s) ∧ Below w.heap.size w w'
abbrev fnV (g : FuncId) (cap : Array Value) : Value := .func (.func g) #[] cap
abbrev clrBox (b : Nat) (g : FuncId) (cap : Array Value) (n : Int) : It := .blk b (IsBox [fnV g cap, fnV 172 #[], .int .i64 n] 132)
abbrev rulBox (b : Nat) (r : SRl) : It := .blk b (IsBox r.enc 43)
structure ClrX where
  b : Nat
  c : Nat
  g : FuncId
  cap : Array Value
theorem put_any (s : List UInt8) (hs : s.length ≤ 5000) (w : World) : Calls Tryz.prog 172 #[str s] w fun e w' => e = .returned (str (stars s.length)) ∧ Below w.heap.size w w' := by
  refine enter_args (args := [str s]) (F := _) Tryz.func172 rfl Tryz.ntmps172 rfl rfl ?_
  intro Rb hRb hRn
  refine T_seq ?_
  refine T_region ?_
  refine S_ 2 rfl rfl rfl _ (y_assign rfl rfl) ?_
  refine S_go (fun _ _ h => h) ?_
  refine T_seq ?_
  refine T_region ?_
  refine S_ 3 rfl rfl rfl _ (y_move rfl rfl) ?_
  refine S_ 4 rfl rfl rfl _ (y_len_str rfl rfl Tryz.underlying9) ?_
  refine S_ 5 rfl rfl rfl _ (y_call rfl rfl rfl cf159 (fun _ w _ => RepeatS_any s.length hs w)) ?_
  refine S_ 2 rfl rfl rfl _ (y_assign rfl rfl) ?_
  refine S_go (fun _ _ h => h) ?_
  refine T_ret (fun a w hF hM => hRb a w (post1 rfl rfl (fun w hM => ?_) a w hF hM))
  exact ⟨rfl, hM.below⟩
theorem newClearing_any {w0 : World} {K : HL} (hK : FromK K) (r : SRl) (hr : MskR r) (w : World) (hM0 : Mem w0 ([] ++ K) w) :
    Calls Tryz.prog 77 #[r.val] w fun e w' => ∃ z : ClrX, e = .returned (selfP z.c) ∧ FindF r z.b z.g z.cap ∧ Mem w0 ([(1, rulBox z.b r), (5, clrBox z.c z.g z.cap 0)] ++ K) w' := by
  obtain ⟨hf, hd⟩ := hr
  refine enterM_args (args := [.agg #[.int .i64 r.wh, str r.nm, .int .i64 r.fd, .int .i64 r.ls, str r.tx, .int .i64 r.dd]]) (F := _) hM0 Tryz.func77 rfl Tryz.ntmps77 rfl rfl ?_
  intro Rb hRb hRn
  refine T_seq ?_
  refine T_region ?_
  refine S_box 1 1 rfl rfl rfl rfl rfl ?_
  intro b1
  refine S_ 2 rfl rfl rfl _ (y_assign rfl rfl) ?_
  refine S_go (fun _ _ h => h) ?_
  refine T_seq ?_
  refine T_region ?_
  refine S_ 4 rfl rfl rfl _ (y_build (zv := .agg #[.nilFunc, .nilFunc, .int .i64 0]) (pl := [(0, 1), (1, 1), (2, 1)]) (out := [.nilFunc, .nilFunc, .int .i64 0]) rfl rfl Tryz.underlying132 z132 (by kernel_rfl) rfl) ?_
  refine S_box 5 5 rfl rfl rfl rfl rfl ?_
  intro b5
  refine S_ 3 rfl rfl rfl _ (y_assign rfl rfl) ?_
  refine S_go (fun _ _ h => h) ?_
  refine T_seq ?_
  refine T_seq ?_
  refine T_region ?_
  refine S_ 6 rfl rfl rfl _ (y_fieldAddr rfl rfl fa43_2) ?_
  refine S_ 7 rfl rfl rfl _ (y_load 1 rfl rfl rfl rfl Tryz.underlying3 rfl) ?_
  refine S_go (fun _ _ h => h) ?_
  refine T_block ?_
  refine T_seq ?_
  refine T_region ?_
  refine S_ 13 rfl rfl rfl _ (y_bin rfl rfl rfl (fun _ => b_eql)) ?_
  refine S_ 12 rfl rfl rfl _ (y_assign rfl rfl) ?_
  refine S_go (fun _ _ h => h) ?_
  refine T_cond rfl (fun h12 => ?_) (fun h12 => ?_)
  · try simp only [decide_eq_true_eq, decide_eq_false_iff_not, Bool.or_eq_true, Bool.or_eq_false_iff, Bool.and_eq_true, Bool.and_eq_false_iff, Bool.not_eq_true', Bool.not_eq_false', Bool.not_eq_true, Bool.not_eq_false, Bool.not_true, Bool.not_false, Int.not_lt, Int.not_le, not_or, not_and, Classical.not_not] at h12
    omega
  · try simp only [decide_eq_true_eq, decide_eq_false_iff_not, Bool.or_eq_true, Bool.or_eq_false_iff, Bool.and_eq_true, Bool.and_eq_false_iff, Bool.not_eq_true', Bool.not_eq_false', Bool.not_eq_true, Bool.not_eq_false, Bool.not_true, Bool.not_false, Int.not_lt, Int.not_le, not_or, not_and, Classical.not_not] at h12
    refine T_seq ?_
    refine T_region ?_
    refine S_ 18 rfl rfl rfl _ (y_bin rfl rfl rfl (fun _ => b_eql)) ?_
    refine S_ 17 rfl rfl rfl _ (y_assign rfl rfl) ?_
    refine S_go (fun _ _ h => h) ?_
    refine T_cond rfl (fun h17 => ?_) (fun h17 => ?_)
    · try simp only [decide_eq_true_eq, decide_eq_false_iff_not, Bool.or_eq_true, Bool.or_eq_false_iff, Bool.and_eq_true, Bool.and_eq_false_iff, Bool.not_eq_true', Bool.not_eq_false', Bool.not_eq_true, Bool.not_eq_false, Bool.not_true, Bool.not_false, Int.not_lt, Int.not_le, not_or, not_and, Classical.not_not] at h17
      refine T_region ?_
      refine S_ 19 rfl rfl rfl _ (y_move rfl rfl) ?_
      refine S_ 20 rfl rfl rfl _ (y_makeFunc rfl rfl rfl rfl rfl) ?_
      refine S_ 21 rfl rfl rfl _ (y_nilCheck rfl rfl) ?_
      refine S_ 22 rfl rfl rfl _ (y_fieldAddr rfl rfl fa132_0) ?_
      refine S_store 5 rfl rfl rfl rfl rfl rfl sz130 rfl rfl ?_
      refine S_go (fun _ _ h => h) ?_
      refine T_seq ?_
      refine T_seq ?_
      refine T_region ?_
      refine S_ 34 rfl rfl rfl _ (y_fieldAddr rfl rfl fa43_5) ?_
      refine S_ 35 rfl rfl rfl _ (y_load 1 rfl rfl rfl rfl Tryz.underlying3 rfl) ?_
      refine S_go (fun _ _ h => h) ?_
      refine T_block ?_
      refine T_seq ?_
      refine T_region ?_
      refine S_ 40 rfl rfl rfl _ (y_bin rfl rfl rfl (fun _ => b_eql)) ?_
      refine S_ 39 rfl rfl rfl _ (y_assign rfl rfl) ?_
      refine S_go (fun _ _ h => h) ?_
      refine T_cond rfl (fun h39 => ?_) (fun h39 => ?_)
      · try simp only [decide_eq_true_eq, decide_eq_false_iff_not, Bool.or_eq_true, Bool.or_eq_false_iff, Bool.and_eq_true, Bool.and_eq_false_iff, Bool.not_eq_true', Bool.not_eq_false', Bool.not_eq_true, Bool.not_eq_false, Bool.not_true, Bool.not_false, Int.not_lt, Int.not_le, not_or, not_and, Classical.not_not] at h39
        omega
      · try simp only [decide_eq_true_eq, decide_eq_false_iff_not, Bool.or_eq_true, Bool.or_eq_false_iff, Bool.and_eq_true, Bool.and_eq_false_iff, Bool.not_eq_true', Bool.not_eq_false', Bool.not_eq_true, Bool.not_eq_false, Bool.not_true, Bool.not_false, Int.not_lt, Int.not_le, not_or, not_and, Classical.not_not] at h39
        refine T_seq ?_
        refine T_region ?_
        refine S_ 45 rfl rfl rfl _ (y_bin rfl rfl rfl (fun _ => b_eql)) ?_
        refine S_ 44 rfl rfl rfl _ (y_assign rfl rfl) ?_
        refine S_go (fun _ _ h => h) ?_
        refine T_cond rfl (fun h44 => ?_) (fun h44 => ?_)
        · try simp only [decide_eq_true_eq, decide_eq_false_iff_not, Bool.or_eq_true, Bool.or_eq_false_iff, Bool.and_eq_true, Bool.and_eq_false_iff, Bool.not_eq_true', Bool.not_eq_false', Bool.not_eq_true, Bool.not_eq_false, Bool.not_true, Bool.not_false, Int.not_lt, Int.not_le, not_or, not_and, Classical.not_not] at h44
          refine T_region ?_
          refine S_ 46 rfl rfl rfl _ (y_move rfl rfl) ?_
          refine S_ 47 rfl rfl rfl _ (y_nilCheck rfl rfl) ?_
          refine S_ 48 rfl rfl rfl _ (y_fieldAddr rfl rfl fa132_1) ?_
          refine S_store 5 rfl rfl rfl rfl rfl rfl sz122 rfl rfl ?_
          refine S_go (fun _ _ h => h) ?_
          refine T_seq ?_
          refine T_region ?_
          refine S_ 49 rfl rfl rfl _ (y_move rfl rfl) ?_
          refine S_ 2 rfl rfl rfl _ (y_assign rfl rfl) ?_
          refine S_go (fun _ _ h => h) ?_
          refine T_ret (fun a w hF hM => hRb a w (post1 rfl rfl (fun w hM => ?_) a w hF hM))
          exact ⟨⟨b1, b5, _, _⟩, rfl, ⟨cf163, fun s w h1 h2 => by unfold fndR; rw [if_pos h17]; exact fndDig_any s h1 r b1 w h2⟩, hM.keep (ks := [(0, 999)]) (by repeat (first | exact kl_rest (by assumption) rfl | (apply kl_in; focus rfl))) _ ⟨rfl, rfl, trivial⟩⟩
        · try simp only [decide_eq_true_eq, decide_eq_false_iff_not, Bool.or_eq_true, Bool.or_eq_false_iff, Bool.and_eq_true, Bool.and_eq_false_iff, Bool.not_eq_true', Bool.not_eq_false', Bool.not_eq_true, Bool.not_eq_false, Bool.not_true, Bool.not_false, Int.not_lt, Int.not_le, not_or, not_and, Classical.not_not] at h44
          omega
    · try simp only [decide_eq_true_eq, decide_eq_false_iff_not, Bool.or_eq_true, Bool.or_eq_false_iff, Bool.and_eq_true, Bool.and_eq_false_iff, Bool.not_eq_true', Bool.not_eq_false', Bool.not_eq_true, Bool.not_eq_false, Bool.not_true, Bool.not_false, Int.not_lt, Int.not_le, not_or, not_and, Classical.not_not] at h17
      refine T_seq ?_
      refine T_region ?_
      refine S_ 24 rfl rfl rfl _ (y_bin rfl rfl rfl (fun _ => b_eql)) ?_
      refine S_ 23 rfl rfl rfl _ (y_assign rfl rfl) ?_
      refine S_go (fun _ _ h => h) ?_
      refine T_cond rfl (fun h23 => ?_) (fun h23 => ?_)
      · try simp only [decide_eq_true_eq, decide_eq_false_iff_not, Bool.or_eq_true, Bool.or_eq_false_iff, Bool.and_eq_true, Bool.and_eq_false_iff, Bool.not_eq_true', Bool.not_eq_false', Bool.not_eq_true, Bool.not_eq_false, Bool.not_true, Bool.not_false, Int.not_lt, Int.not_le, not_or, not_and, Classical.not_not] at h23
        refine T_region ?_
        refine S_ 25 rfl rfl rfl _ (y_move rfl rfl) ?_
        refine S_ 26 rfl rfl rfl _ (y_makeFunc rfl rfl rfl rfl rfl) ?_
        refine S_ 27 rfl rfl rfl _ (y_nilCheck rfl rfl) ?_
        refine S_ 28 rfl rfl rfl _ (y_fieldAddr rfl rfl fa132_0) ?_
        refine S_store 5 rfl rfl rfl rfl rfl rfl sz130 rfl rfl ?_
        refine S_go (fun _ _ h => h) ?_
        refine T_seq ?_
        refine T_seq ?_
        refine T_region ?_
        refine S_ 34 rfl rfl rfl _ (y_fieldAddr rfl rfl fa43_5) ?_
        refine S_ 35 rfl rfl rfl _ (y_load 1 rfl rfl rfl rfl Tryz.underlying3 rfl) ?_
        refine S_go (fun _ _ h => h) ?_
        refine T_block ?_
        refine T_seq ?_
        refine T_region ?_
        refine S_ 40 rfl rfl rfl _ (y_bin rfl rfl rfl (fun _ => b_eql)) ?_
        refine S_ 39 rfl rfl rfl _ (y_assign rfl rfl) ?_
        refine S_go (fun _ _ h => h) ?_
        refine T_cond rfl (fun h39 => ?_) (fun h39 => ?_)
        · try simp only [decide_eq_true_eq, decide_eq_false_iff_not, Bool.or_eq_true, Bool.or_eq_false_iff, Bool.and_eq_true, Bool.and_eq_false_iff, Bool.not_eq_true', Bool.not_eq_false', Bool.not_eq_true, Bool.not_eq_false, Bool.not_true, Bool.not_false, Int.not_lt, Int.not_le, not_or, not_and, Classical.not_not] at h39
          omega
        · try simp only [decide_eq_true_eq, decide_eq_false_iff_not, Bool.or_eq_true, Bool.or_eq_false_iff, Bool.and_eq_true, Bool.and_eq_false_iff, Bool.not_eq_true', Bool.not_eq_false', Bool.not_eq_true, Bool.not_eq_false, Bool.not_true, Bool.not_false, Int.not_lt, Int.not_le, not_or, not_and, Classical.not_not] at h39
          refine T_seq ?_
          refine T_region ?_
          refine S_ 45 rfl rfl rfl _ (y_bin rfl rfl rfl (fun _ => b_eql)) ?_
          refine S_ 44 rfl rfl rfl _ (y_assign rfl rfl) ?_
          refine S_go (fun _ _ h => h) ?_
          refine T_cond rfl (fun h44 => ?_) (fun h44 => ?_)
          · try simp only [decide_eq_true_eq, decide_eq_false_iff_not, Bool.or_eq_true, Bool.or_eq_false_iff, Bool.and_eq_true, Bool.and_eq_false_iff, Bool.not_eq_true', Bool.not_eq_false', Bool.not_eq_true, Bool.not_eq_false, Bool.not_true, Bool.not_false, Int.not_lt, Int.not_le, not_or, not_and, Classical.not_not] at h44
            refine T_region ?_
            refine S_ 46 rfl rfl rfl _ (y_move rfl rfl) ?_
            refine S_ 47 rfl rfl rfl _ (y_nilCheck rfl rfl) ?_
            refine S_ 48 rfl rfl rfl _ (y_fieldAddr rfl rfl fa132_1) ?_
            refine S_store 5 rfl rfl rfl rfl rfl rfl sz122 rfl rfl ?_
            refine S_go (fun _ _ h => h) ?_
            refine T_seq ?_
            refine T_region ?_
            refine S_ 49 rfl rfl rfl _ (y_move rfl rfl) ?_
            refine S_ 2 rfl rfl rfl _ (y_assign rfl rfl) ?_
            refine S_go (fun _ _ h => h) ?_
            refine T_ret (fun a w hF hM => hRb a w (post1 rfl rfl (fun w hM => ?_) a w hF hM))
            exact ⟨⟨b1, b5, _, _⟩, rfl, ⟨cf166, fun s w h1 h2 => by unfold fndR; rw [if_neg h17, if_pos h23]; exact fndHex_any s h1 r b1 w h2⟩, hM.keep (ks := [(0, 999)]) (by repeat (first | exact kl_rest (by assumption) rfl | (apply kl_in; focus rfl))) _ ⟨rfl, rfl, trivial⟩⟩
          · try simp only [decide_eq_true_eq, decide_eq_false_iff_not, Bool.or_eq_true, Bool.or_eq_false_iff, Bool.and_eq_true, Bool.and_eq_false_iff, Bool.not_eq_true', Bool.not_eq_false', Bool.not_eq_true, Bool.not_eq_false, Bool.not_true, Bool.not_false, Int.not_lt, Int.not_le, not_or, not_and, Classical.not_not] at h44
            omega
      · try simp only [decide_eq_true_eq, decide_eq_false_iff_not, Bool.or_eq_true, Bool.or_eq_false_iff, Bool.and_eq_true, Bool.and_eq_false_iff, Bool.not_eq_true', Bool.not_eq_false', Bool.not_eq_true, Bool.not_eq_false, Bool.not_true, Bool.not_false, Int.not_lt, Int.not_le, not_or, not_and, Classical.not_not] at h23
        refine T_seq ?_
        refine T_region ?_
        refine S_ 30 rfl rfl rfl _ (y_bin rfl rfl rfl (fun _ => b_eql)) ?_
        refine S_ 29 rfl rfl rfl _ (y_assign rfl rfl) ?_
        refine S_go (fun _ _ h => h) ?_
        refine T_cond rfl (fun h29 => ?_) (fun h29 => ?_)
        · try simp only [decide_eq_true_eq, decide_eq_false_iff_not, Bool.or_eq_true, Bool.or_eq_false_iff, Bool.and_eq_true, Bool.and_eq_false_iff, Bool.not_eq_true', Bool.not_eq_false', Bool.not_eq_true, Bool.not_eq_false, Bool.not_true, Bool.not_false, Int.not_lt, Int.not_le, not_or, not_and, Classical.not_not] at h29
          refine T_region ?_
          refine S_ 31 rfl rfl rfl _ (y_move rfl rfl) ?_
          refine S_ 32 rfl rfl rfl _ (y_nilCheck rfl rfl) ?_
          refine S_ 33 rfl rfl rfl _ (y_fieldAddr rfl rfl fa132_0) ?_
          refine S_store 5 rfl rfl rfl rfl rfl rfl sz130 rfl rfl ?_
          refine S_go (fun _ _ h => h) ?_
          refine T_seq ?_
          refine T_seq ?_
          refine T_region ?_
          refine S_ 34 rfl rfl rfl _ (y_fieldAddr rfl rfl fa43_5) ?_
          refine S_ 35 rfl rfl rfl _ (y_load 1 rfl rfl rfl rfl Tryz.underlying3 rfl) ?_
          refine S_go (fun _ _ h => h) ?_
          refine T_block ?_
          refine T_seq ?_
          refine T_region ?_
          refine S_ 40 rfl rfl rfl _ (y_bin rfl rfl rfl (fun _ => b_eql)) ?_
          refine S_ 39 rfl rfl rfl _ (y_assign rfl rfl) ?_
          refine S_go (fun _ _ h => h) ?_
          refine T_cond rfl (fun h39 => ?_) (fun h39 => ?_)
          · try simp only [decide_eq_true_eq, decide_eq_false_iff_not, Bool.or_eq_true, Bool.or_eq_false_iff, Bool.and_eq_true, Bool.and_eq_false_iff, Bool.not_eq_true', Bool.not_eq_false', Bool.not_eq_true, Bool.not_eq_false, Bool.not_true, Bool.not_false, Int.not_lt, Int.not_le, not_or, not_and, Classical.not_not] at h39
            omega
          · try simp only [decide_eq_true_eq, decide_eq_false_iff_not, Bool.or_eq_true, Bool.or_eq_false_iff, Bool.and_eq_true, Bool.and_eq_false_iff, Bool.not_eq_true', Bool.not_eq_false', Bool.not_eq_true, Bool.not_eq_false, Bool.not_true, Bool.not_false, Int.not_lt, Int.not_le, not_or, not_and, Classical.not_not] at h39
            refine T_seq ?_
            refine T_region ?_
            refine S_ 45 rfl rfl rfl _ (y_bin rfl rfl rfl (fun _ => b_eql)) ?_
            refine S_ 44 rfl rfl rfl _ (y_assign rfl rfl) ?_
            refine S_go (fun _ _ h => h) ?_
            refine T_cond rfl (fun h44 => ?_) (fun h44 => ?_)
            · try simp only [decide_eq_true_eq, decide_eq_false_iff_not, Bool.or_eq_true, Bool.or_eq_false_iff, Bool.and_eq_true, Bool.and_eq_false_iff, Bool.not_eq_true', Bool.not_eq_false', Bool.not_eq_true, Bool.not_eq_false, Bool.not_true, Bool.not_false, Int.not_lt, Int.not_le, not_or, not_and, Classical.not_not] at h44
              refine T_region ?_
              refine S_ 46 rfl rfl rfl _ (y_move rfl rfl) ?_
              refine S_ 47 rfl rfl rfl _ (y_nilCheck rfl rfl) ?_
              refine S_ 48 rfl rfl rfl _ (y_fieldAddr rfl rfl fa132_1) ?_
              refine S_store 5 rfl rfl rfl rfl rfl rfl sz122 rfl rfl ?_
              refine S_go (fun _ _ h => h) ?_
              refine T_seq ?_
              refine T_region ?_
              refine S_ 49 rfl rfl rfl _ (y_move rfl rfl) ?_
              refine S_ 2 rfl rfl rfl _ (y_assign rfl rfl) ?_
              refine S_go (fun _ _ h => h) ?_
              refine T_ret (fun a w hF hM => hRb a w (post1 rfl rfl (fun w hM => ?_) a w hF hM))
              exact ⟨⟨b1, b5, _, _⟩, rfl, ⟨cf168, fun s w h1 h2 => by unfold fndR; rw [if_neg h17, if_neg h23]; exact mails_any s h1 w⟩, hM.keep (ks := [(0, 999)]) (by repeat (first | exact kl_rest (by assumption) rfl | (apply kl_in; focus rfl))) _ ⟨rfl, rfl, trivial⟩⟩
            · try simp only [decide_eq_true_eq, decide_eq_false_iff_not, Bool.or_eq_true, Bool.or_eq_false_iff, Bool.and_eq_true, Bool.and_eq_false_iff, Bool.not_eq_true', Bool.not_eq_false', Bool.not_eq_true, Bool.not_eq_false, Bool.not_true, Bool.not_false, Int.not_lt, Int.not_le, not_or, not_and, Classical.not_not] at h44
              omega
        · try simp only [decide_eq_true_eq, decide_eq_false_iff_not, Bool.or_eq_true, Bool.or_eq_false_iff, Bool.and_eq_true, Bool.and_eq_false_iff, Bool.not_eq_true', Bool.not_eq_false', Bool.not_eq_true, Bool.not_eq_false, Bool.not_true, Bool.not_false, Int.not_lt, Int.not_le, not_or, not_and, Classical.not_not] at h29
          omega
end Go.Proofs.YtfmbgaaonfgenaaGreatDoor
end
section
namespace Go.Proofs.YtfmbgaaonfgenaaGreatDoor
set_option linter.unusedSimpArgs false
set_option linter.unusedVariables false
set_option maxRecDepth 20000
open Go.RowKit Go.Eng
theorem putM_go {s : List UInt8} {F : List Sp} {i a : Nat} {x : Sp} {l : List UInt8} (hp : putM s 0 F = l ++ putM s a (F.drop i)) (hx : F.drop i = x :: F.drop (i + 1)) :
    putM s 0 F = (l ++ ((s.drop a).take (x.1 - a) ++ stars (x.2 - x.1))) ++ putM s x.2 (F.drop (i + 1)) := by
  obtain ⟨f, t⟩ := x
  rw [hp, hx, putM]
  simp only [List.append_assoc]
theorem spok_go {n a : Nat} {F : List Sp} {i : Nat} {x : Sp} (h : SpOk n a (F.drop i)) (hx : F.drop i = x :: F.drop (i + 1)) : a ≤ x.1 ∧ x.1 ≤ x.2 ∧ x.2 ≤ n ∧ SpOk n x.2 (F.drop (i + 1)) := by
  rw [hx] at h
  obtain ⟨f, t⟩ := x
  cases h with
  | cons h1 h2 h3 h => exact ⟨h1, h2, h3, h⟩
theorem cut_strI {s : List UInt8} {a b : Nat} : str ((s.take ((b : Nat) : Int).toNat).drop ((a : Nat) : Int).toNat) = str ((s.drop a).take (b - a)) := by rw [Int.toNat_natCast, Int.toNat_natCast, List.drop_take]
theorem cut_len {s : List UInt8} {a b : Nat} (h : a ≤ b) (hb : b ≤ s.length) : ((s.drop a).take (b - a)).length = b - a := by rw [List.length_take, List.length_drop]; omega
theorem mailG_len (s : List UInt8) : ∀ l : List Sp, (mailG s l).length ≤ l.length
  | [] => by rw [mailG]; simp; simp
  | [x] => by rw [mailG]; simp; simp
  | x :: y :: r => by
    rw [mailG]
    have h1 := mailG_len s r
    have h2 := mailG_len s (y :: r)
    split
    · simp only [List.length_cons]; omega
    · simp only [List.length_cons] at h2 ⊢; omega
theorem fndR_len (r : SRl) (s : List UInt8) : (fndR r s).length ≤ s.length := by
  have h : ∀ is : UInt8 → Bool, (rowsF is s s.length 0).length ≤ s.length := fun is => rowsF_len is s s.length 0
  unfold fndR
  split
  · exact Nat.le_trans (List.length_filter_le _ _) (h _)
  · split
    · exact Nat.le_trans (List.length_filter_le _ _) (h _)
    · exact Nat.le_trans (mailG_len s _) (h _)
set_option maxHeartbeats 1000000 in
theorem clear_any {w0 : World} {K : HL} (hK : FromK K) (r : SRl) (b1 b2 b3 off : Nat) (g : FuncId) (cap : Array Value) (hg : FindF r b1 g cap) (n : Nat) (cs : List Value) (tb : TypeId) (s : List UInt8) (hs : nth cs off = some (str s)) (hsl : s.length ≤ 5000) (hn : n ≤ 100000000000) (w : World)
    (hM0 : Mem w0 ([(0, clrBox b2 g cap n), (1, rulBox b1 r), (2, .blk b3 (IsBox cs tb))] ++ K) w) :
    Calls Tryz.prog 174 #[selfP b2, .pointer (some ⟨b3, off, none⟩)] w fun e w' => ∃ _u : Unit, e = .returned (.tuple #[]) ∧ True ∧
      Mem w0 ([(0, clrBox b2 g cap (n + (fndR r s).length : Nat)), (1, rulBox b1 r), (2, .blk b3 (IsBox (spl cs off [str (putM s 0 (fndR r s))]) tb))] ++ K) w' := by
  have hok := fndR_ok r s
  obtain ⟨F, hF⟩ : ∃ F, F = fndR r s := ⟨_, rfl⟩
  have hfl := fndR_len r s
  rw [← hF] at hok hfl ⊢
  have hfit : Nat.ble (off + 1) cs.length = true := by
    rw [Nat.ble_eq]
    rw [nth_eq] at hs
    exact (List.getElem?_eq_some_iff.1 hs).1
  refine enterM_args (args := [selfP b2, .pointer (some ⟨b3, off, none⟩)]) (F := _) hM0 Tryz.func174 rfl Tryz.ntmps174 rfl rfl ?_
  intro Rb hRb hRn
  refine T_seq ?_
  refine T_region ?_
  refine S_alloc 4 4 rfl rfl rfl rfl z226 ?_
  intro b4
  refine S_nilSlice 904 (e := 5) (size := 1) ?_
  refine S_go (fun _ _ h => h) ?_
  refine T_seq ?_
  refine T_region ?_
  refine S_ 5 rfl rfl rfl _ (y_assign rfl rfl) ?_
  refine S_go (fun _ _ h => h) ?_
  refine T_seq ?_
  refine T_seq ?_
  refine T_perm [0, 1, 2, 3, 4, 5, 6, 9, 7, 8] [true, true, true, true, true, true, true, false, true, true] [0, 1, 3, 7, 0, 16, 48, 127, 255, 0] [(3, [0]), (6, [2])] (by kernel_rfl) (by kernel_rfl) (by kernel_rfl) rfl (by kernel_rfl) ?_
  refine Rf_ 0 8 rfl rfl rfl rfl rfl _ trivial (Y.z (y_move rfl rfl) rfl) ?_
  refine Rf_ 1 9 rfl rfl rfl rfl rfl _ trivial (Z.of (z_nilCheck rfl rfl)) ?_
  refine Rf_ 2 10 rfl rfl rfl rfl rfl _ trivial (Y.z (y_fieldAddr rfl rfl fa132_0) rfl) ?_
  refine Rf_ 3 11 rfl rfl rfl rfl rfl _ ⟨rfl, trivial⟩ (Y.z (y_load 0 rfl rfl rfl rfl Tryz.underlying130 rfl) rfl) ?_
  refine Rf_ 4 12 rfl rfl rfl rfl rfl _ trivial (Y.z (y_move rfl rfl) rfl) ?_
  refine Rf_ 5 13 rfl rfl rfl rfl rfl _ trivial (Z.of (z_nilCheck rfl rfl)) ?_
  refine Rf_ 6 14 rfl rfl rfl rfl rfl _ ⟨rfl, trivial⟩ (Y.z (y_load 2 rfl rfl rfl hs Tryz.underlying9 rfl) rfl) ?_
  refine Rf_ 9 17 rfl rfl rfl rfl rfl _ trivial (Y.z (y_move rfl rfl) rfl) ?_
  refine R_chain 7 rfl rfl ?_
  refine S_callOwn 15 15 rfl rfl rfl rfl rfl rfl rfl hg.cf (fun A c => .slice A (F.length) c) 199 2 (F.length) (F.flatMap spE) (fun w1 hM => by rw [hF]; exact hg.any s w1 (by omega) (hM.box_cells 1 rfl)) ?_
  intro A15 c15
  refine R_next ⟨.inl rfl, .inl rfl, trivial⟩ ?_
  refine Rf_ 8 16 rfl rfl rfl rfl rfl _ trivial (Z.of (z_len rfl rfl Tryz.underlying196)) ?_
  refine R_go (fun _ _ h => h) ?_
  refine T_block ?_
  refine T_loopK6 (kf := [(5, 5), (7, 7), (17, 52)]) (kl := [(0, 0), (4, 5), (7, 7), (17, 52), (904, 904)]) (fun (i a : Nat) (ad : Value) (A : Option Addr) (c : Nat) (l : List UInt8) => [(17, true, .int .i64 (i : Int)), (5, true, .int .i64 (a : Int))]) (fun (i a : Nat) (ad : Value) (A : Option Addr) (c : Nat) (l : List UInt8) => [(4, bB b4 ad A c l), (904, bR A c l), (0, clrBox b2 g cap (n + i : Nat))]) (fun (i a : Nat) (ad : Value) (A : Option Addr) (c : Nat) (l : List UInt8) => i ≤ F.length ∧ SpOk s.length a (F.drop i) ∧ putM s 0 F = l ++ putM s a (F.drop i) ∧ l.length = a ∧ (ad = .pointer none ∨ ad = selfP b4) ∧ (l.length = 0 → A = none ∧ c = 0)) (fun (i a : Nat) (ad : Value) (A : Option Addr) (c : Nat) (l : List UInt8) => F.length - i) 0 0 (.pointer none) none 0 [] (by repeat (first | exact kf_nil | (apply kf_in; focus rfl) | (apply kf_out; focus rfl))) (by repeat (first | exact kl_nil | exact kl_rest (by assumption) rfl | (apply kl_in; focus rfl) | (apply kl_out; focus rfl))) ?_ ?_ ?_ ?_
  · exact ⟨by omega, hok, rfl, rfl, .inl rfl, fun _ => ⟨rfl, rfl⟩⟩
  · exact ⟨rfl, rfl, trivial⟩
  · exact ⟨rfl, rfl, rfl, trivial⟩
  rintro i a ad A c l ⟨hp1, hp2, hp3, hp4, hp5, hp6⟩
  refine T_seq ?_
  refine T_region ?_
  refine S_ 18 rfl rfl rfl _ (y_bin rfl rfl rfl (fun _ => b_lss)) ?_
  refine S_go (fun _ _ h => h) ?_
  refine T_seq ?_
  refine T_cond rfl (fun h18 => ?_) (fun h18 => ?_)
  · try simp only [decide_eq_true_eq, decide_eq_false_iff_not, Bool.or_eq_true, Bool.or_eq_false_iff, Bool.and_eq_true, Bool.and_eq_false_iff, Bool.not_eq_true', Bool.not_eq_false', Bool.not_eq_true, Bool.not_eq_false, Bool.not_true, Bool.not_false, Int.not_lt, Int.not_le, not_or, not_and, Classical.not_not] at h18
    obtain ⟨x, hx1, hx2⟩ := at_ltP (l := F) (i := i) (by omega)
    obtain ⟨hx3, hx4, hx5, hx6⟩ := spok_go hp2 hx2
    have hpl : ((s.drop a).take (x.1 - a) ++ stars (x.2 - x.1)).length = x.2 - a := by rw [List.length_append, cut_len hx3 (by omega), List.length_replicate]; omega
    have hln : (l ++ ((s.drop a).take (x.1 - a) ++ stars (x.2 - x.1))).length = x.2 := by rw [List.length_append, hpl]; omega
    refine T_skip_go (fun _ _ h => h) ?_
    refine T_seq ?_
    refine T_block ?_
    refine T_seq ?_
    refine T_region ?_
    refine S_ 19 rfl rfl rfl _ (y_indexOwn 15 rfl rfl rfl rfl Tryz.underlying196 sz199 (fun _ => by omega)) ?_
    refine S_ 20 rfl rfl rfl _ (y_loadO 15 rfl rfl rfl rfl (fun _ => rfl) (fun _ => hx1) Tryz.underlying199 rfl sz199) ?_
    refine S_alloc 7 7 rfl rfl rfl rfl z199 ?_
    intro b7
    refine S_store 7 rfl rfl rfl rfl rfl rfl sz199 rfl rfl ?_
    refine S_go (fun _ _ h => h) ?_
    refine T_seq ?_
    refine T_drawsTail 21 (by kernel_rfl) (by kernel_rfl) ?_
    refine D_ 21 rfl rfl rfl _ (y_move rfl rfl) ?_
    refine D_ 22 rfl rfl rfl _ (y_nilCheck rfl rfl) ?_
    refine D_ 23 rfl rfl rfl _ (y_load 2 rfl rfl rfl hs Tryz.underlying9 rfl) ?_
    refine D_ 24 rfl rfl rfl _ (y_move rfl rfl) ?_
    refine D_ 25 rfl rfl rfl _ (y_fieldAddr rfl rfl fa199_0) ?_
    refine D_ 26 rfl rfl rfl _ (y_load 7 rfl rfl rfl rfl Tryz.underlying3 rfl) ?_
    refine D_ 27 rfl rfl rfl _ (y_as (v' := str ((s.drop a).take (x.1 - a))) (by exact cut_strI) (y_strSub rfl rfl rfl rfl Tryz.underlying9 (fun _ => by omega))) ?_
    refine D_ 28 rfl rfl rfl _ (y_move rfl rfl) ?_
    refine D_ 29 rfl rfl rfl _ (y_nilCheck rfl rfl) ?_
    refine D_ 30 rfl rfl rfl _ (y_fieldAddr rfl rfl fa132_1) ?_
    refine D_ 31 rfl rfl rfl _ (y_load 0 rfl rfl rfl rfl Tryz.underlying122 rfl) ?_
    refine D_ 32 rfl rfl rfl _ (y_move rfl rfl) ?_
    refine D_ 33 rfl rfl rfl _ (y_nilCheck rfl rfl) ?_
    refine D_ 34 rfl rfl rfl _ (y_load 2 rfl rfl rfl hs Tryz.underlying9 rfl) ?_
    refine D_ 35 rfl rfl rfl _ (y_fieldAddr rfl rfl fa199_0) ?_
    refine D_ 36 rfl rfl rfl _ (y_load 7 rfl rfl rfl rfl Tryz.underlying3 rfl) ?_
    refine D_ 37 rfl rfl rfl _ (y_fieldAddr rfl rfl fa199_1) ?_
    refine D_ 38 rfl rfl rfl _ (y_load 7 rfl rfl rfl rfl Tryz.underlying3 rfl) ?_
    refine D_ 39 rfl rfl rfl _ (y_as (v' := str ((s.drop x.1).take (x.2 - x.1))) (by exact cut_strI) (y_strSub rfl rfl rfl rfl Tryz.underlying9 (fun _ => by omega))) ?_
    refine D_ 40 rfl rfl rfl _ (y_as (v' := str (stars (x.2 - x.1))) (by rw [cut_len hx4 hx5]) (y_call rfl rfl rfl cf172 (fun _ w _ => put_any _ (by rw [cut_len hx4 hx5]; omega) w))) ?_
    refine D_ 41 rfl rfl rfl _ (y_bin rfl rfl rfl (fun _ => b_adds (by rw [cut_len hx3 (by omega), List.length_replicate]; omega))) ?_
    refine D_tail ?_
    refine S_callM 42 [(0, 4), (1, 904)] (X := Option Addr × Nat) rfl rfl rfl rfl rfl rfl rfl cf208 rfl (fun _ => .tuple #[.int .i64 (((s.drop a).take (x.1 - a) ++ stars (x.2 - x.1))).length, .nilIface]) (fun y0 => A = none → c = 0 → ((s.drop a).take (x.1 - a) ++ stars (x.2 - x.1)) = [] → y0.1 = none ∧ y0.2 = 0) (fun z0 => [(0, bB b4 (selfP b4) z0.1 z0.2 (l ++ ((s.drop a).take (x.1 - a) ++ stars (x.2 - x.1)))), (1, bR z0.1 z0.2 (l ++ ((s.drop a).take (x.1 - a) ++ stars (x.2 - x.1))))]) (fun _ => rfl) (fun _ => rfl) (fun K1 hK1 w hM => WStr_any hK1 b4 ad A c (l) (((s.drop a).take (x.1 - a) ++ stars (x.2 - x.1))) hp5 (by rw [hpl]; omega) w hM) ?_
    intro x42 hx42
    refine S_go (fun _ _ h => h) ?_
    refine T_seq ?_
    refine T_region ?_
    refine S_ 43 rfl rfl rfl _ (y_fieldAddr rfl rfl fa199_1) ?_
    refine S_ 44 rfl rfl rfl _ (y_load 7 rfl rfl rfl rfl Tryz.underlying3 rfl) ?_
    refine S_ 5 rfl rfl rfl _ (y_assign rfl rfl) ?_
    refine S_go (fun _ _ h => h) ?_
    refine T_region ?_
    refine S_ 45 rfl rfl rfl _ (y_move rfl rfl) ?_
    refine S_ 46 rfl rfl rfl _ (y_nilCheck rfl rfl) ?_
    refine S_ 47 rfl rfl rfl _ (y_fieldAddr rfl rfl fa132_2) ?_
    refine S_ 48 rfl rfl rfl _ (y_load 0 rfl rfl rfl rfl Tryz.underlying3 rfl) ?_
    refine S_ 49 rfl rfl rfl _ (y_bin rfl rfl rfl (fun hg => b_add (by omega))) ?_
    refine S_ 50 rfl rfl rfl _ (y_nilCheck rfl rfl) ?_
    refine S_ 51 rfl rfl rfl _ (y_fieldAddr rfl rfl fa132_2) ?_
    refine S_store 0 rfl rfl rfl rfl rfl rfl sz3 rfl rfl ?_
    refine S_go (fun _ _ h => h) ?_
    refine T_region ?_
    refine S_ 52 rfl rfl rfl _ (y_bin rfl rfl rfl (fun hg => b_add (by omega))) ?_
    refine S_ 17 rfl rfl rfl _ (y_move rfl rfl) ?_
    refine S_nil (nextK6 (kf := [(5, 5), (7, 7), (17, 52)]) (kl := [(0, 0), (4, 5), (7, 7), (17, 52), (904, 904)]) (i + 1) x.2 (selfP b4) x42.1 x42.2 (l ++ ((s.drop a).take (x.1 - a) ++ stars (x.2 - x.1))) (by repeat (first | exact kf_nil | (apply kf_in; focus rfl) | (apply kf_out; focus rfl))) (by repeat (first | exact kl_nil | exact kl_rest (by assumption) rfl | (apply kl_in; focus rfl) | (apply kl_out; focus rfl))) ?_ ?_ ?_ ?_)
    · omega
    · exact ⟨by omega, hx6, putM_go hp3 hx2, hln, by exact .inr rfl, fun h => by
        rw [hln] at h
        have h2 := hp6 (by omega)
        exact hx42 h2.1 h2.2 (List.eq_nil_of_length_eq_zero (by rw [hpl]; omega))⟩
    · exact ⟨rfl, rfl, trivial⟩
    · exact ⟨rfl, rfl, rfl, trivial⟩
  · try simp only [decide_eq_true_eq, decide_eq_false_iff_not, Bool.or_eq_true, Bool.or_eq_false_iff, Bool.and_eq_true, Bool.and_eq_false_iff, Bool.not_eq_true', Bool.not_eq_false', Bool.not_eq_true, Bool.not_eq_false, Bool.not_true, Bool.not_false, Int.not_lt, Int.not_le, not_or, not_and, Classical.not_not] at h18
    have hal := hp2.le
    have hdr : F.drop i = [] := List.drop_eq_nil_of_le (by omega)
    have hfin : l ++ s.drop a = putM s 0 F := by rw [hp3, hdr, putM]
    have hi : i = F.length := by omega
    subst hi
    refine T_exit_go (fun _ _ h => h) ?_
    refine T_seq ?_
    refine T_region ?_
    refine S_ 53 rfl rfl rfl _ (y_move rfl rfl) ?_
    refine S_ 54 rfl rfl rfl _ (y_nilCheck rfl rfl) ?_
    refine S_ 55 rfl rfl rfl _ (y_load 2 rfl rfl rfl hs Tryz.underlying9 rfl) ?_
    refine S_ 56 rfl rfl rfl _ (y_move rfl rfl) ?_
    refine S_ 57 rfl rfl rfl _ (y_as (v' := str (s.drop a)) (by exact rfl) (y_strFrom rfl rfl rfl Tryz.underlying9 (fun _ => by omega))) ?_
    refine S_callM 58 [(0, 4), (1, 904)] (X := Option Addr × Nat) rfl rfl rfl rfl rfl rfl rfl cf208 rfl (fun _ => .tuple #[.int .i64 ((s.drop a)).length, .nilIface]) (fun y0 => A = none → c = 0 → (s.drop a) = [] → y0.1 = none ∧ y0.2 = 0) (fun z0 => [(0, bB b4 (selfP b4) z0.1 z0.2 (l ++ (s.drop a))), (1, bR z0.1 z0.2 (l ++ (s.drop a)))]) (fun _ => rfl) (fun _ => rfl) (fun K1 hK1 w hM => WStr_any hK1 b4 ad A c (l) ((s.drop a)) hp5 (by rw [List.length_drop]; omega) w hM) ?_
    intro x58 hx58
    refine S_go (fun _ _ h => h) ?_
    refine T_region ?_
    refine S_ 59 rfl rfl rfl _ (y_move rfl rfl) ?_
    refine S_callM 60 [(0, 4), (1, 904)] (X := Unit) rfl rfl rfl rfl rfl rfl rfl cf210 rfl (fun _ => str (putM s 0 F)) (fun _ => True) (fun _ => [(1, bR none 0 []), (0, bB b4 (selfP b4) x58.1 x58.2 (putM s 0 F))]) (fun _ => rfl) (fun _ => rfl) (fun K1 hK1 w hM => (BStr_any hK1 b4 (selfP b4) x58.1 x58.2 (putM s 0 F) (fun h => (hx58 (hp6 (by rw [putM_len s hok] at h; omega)).1 (hp6 (by rw [putM_len s hok] at h; omega)).2 (List.eq_nil_of_length_eq_zero (by rw [putM_len s hok] at h; rw [List.length_drop]; omega))).1) (by rw [putM_len s hok]; omega) w (hfin ▸ hM)).mono fun e w1 h => ⟨(), h.1, trivial, h.2⟩) ?_
    intro _ _
    refine S_ 61 rfl rfl rfl _ (y_nilCheck rfl rfl) ?_
    refine S_store 2 rfl rfl rfl rfl rfl rfl sz9 rfl hfit ?_
    refine S_nil (fun a w hF hM => hRn a w (post0 rfl (fun w hM => ?_) a w hF hM))
    exact ⟨(), rfl, trivial, hM.keep (ks := [(0, 999)]) (by repeat (first | exact kl_rest (by assumption) rfl | (apply kl_in; focus rfl))) _ ⟨rfl, rfl, rfl, trivial⟩⟩
end Go.Proofs.YtfmbgaaonfgenaaGreatDoor
end
section
namespace Go.Proofs.YtfmbgaaonfgenaaGreatDoor
set_option linter.unusedSimpArgs false
set_option linter.unusedVariables false
set_option maxRecDepth 20000
open Go.RowKit Go.Eng
section
variable (e : UInt8 → UInt8 → Bool)
def gm : List UInt8 → List UInt8 → Bool
  | [], [] => true
  | [], _ :: _ => false
  | a :: p, [] => decide (a = 42) && gm p []
  | a :: p, c :: r => if a = 42 then gm p (c :: r) || gm (a :: p) r else e a c && gm p r
termination_by p s => p.length + s.length
end
section
variable {e : UInt8 → UInt8 → Bool}
theorem gm_star {p s : List UInt8} : gm e (42 :: p) s = true ↔ ∃ m, m ≤ s.length ∧ gm e p (s.drop m) = true := by
  induction s with
  | nil =>
    rw [gm]
    simp only [decide_true, Bool.true_and, List.length_nil, List.drop_nil]
    exact ⟨fun h => ⟨0, Nat.le_refl _, h⟩, fun ⟨m, _, h⟩ => h⟩
  | cons c r ih =>
    rw [gm, if_pos rfl, Bool.or_eq_true, ih]
    constructor
    · rintro (h | ⟨m, h1, h2⟩)
      · exact ⟨0, Nat.zero_le _, h⟩
      · exact ⟨m + 1, by rw [List.length_cons]; omega, by rw [List.drop_succ_cons]; exact h2⟩
    · rintro ⟨m, h1, h2⟩
      cases m with
      | zero => exact .inl h2
      | succ m => exact .inr ⟨m, by rw [List.length_cons] at h1; omega, by rw [List.drop_succ_cons] at h2; exact h2⟩
theorem gm_lit {a c : UInt8} {p r : List UInt8} (h : a ≠ 42) : gm e (a :: p) (c :: r) = (e a c && gm e p r) := by rw [gm, if_neg h]
theorem gm_lit0 {a : UInt8} {p : List UInt8} (h : a ≠ 42) : gm e (a :: p) [] = false := by rw [gm, decide_eq_false h, Bool.false_and]
/-! ### The table of all beginnings -/
/-! ### Back to the last star -/
/-- where the search stands: the last star at 'st' was tried from 'mk' on; the pattern from there to 'i' has no star -/
structure Tried (e : UInt8 → UInt8 → Bool) (p s : List UInt8) (i k : Nat) (st : Option Nat) (mk : Nat) : Prop where
  hi : i ≤ p.length
  hk : k ≤ s.length
  hst : ∀ j, st = some j → j < i ∧ k = mk + (i - j - 1) ∧ p.getD j 0 = 42 ∧ ∀ m, j < m → m < i → p.getD m 0 ≠ 42
  no : st = none → mk = 0
  eq : gm e p s = true ↔ gm e (p.drop i) (s.drop k) = true ∨ ∃ j, st = some j ∧ ∃ m, mk < m ∧ m ≤ s.length ∧ gm e (p.drop (j + 1)) (s.drop m) = true
theorem Tried.start (p s : List UInt8) : Tried e p s 0 0 none 0 := ⟨Nat.zero_le _, Nat.zero_le _, (fun j h => by cases h), (fun _ => rfl), by simp⟩
theorem drop_getD {p : List UInt8} {i : Nat} (h : i < p.length) : p.drop i = p.getD i 0 :: p.drop (i + 1) := by
  rw [List.drop_eq_getElem_cons h, List.getD_eq_getElem?_getD, List.getElem?_eq_getElem h]; rfl
/-- literals take as many bytes as they are -/
theorem gm_lits {p s : List UInt8} : ∀ (n i : Nat), i + n ≤ p.length → (∀ m, i ≤ m → m < i + n → p.getD m 0 ≠ 42) → gm e (p.drop i) s = true → n ≤ s.length ∧ gm e (p.drop (i + n)) (s.drop n) = true
  | 0, i, _, _, h => ⟨Nat.zero_le _, by simpa using h⟩
  | n + 1, i, hl, hn, h => by
    have ha := hn i (Nat.le_refl _) (by omega)
    rw [drop_getD (by omega)] at h
    cases s with
    | nil => rw [gm_lit0 ha] at h; cases h
    | cons c r =>
      rw [gm_lit ha, Bool.and_eq_true] at h
      obtain ⟨h1, h2⟩ := gm_lits (s := r) n (i + 1) (by omega) (fun m h1 h2 => hn m (by omega) (by omega)) h.2
      exact ⟨by rw [List.length_cons]; omega, by rw [List.drop_succ_cons, show i + (n + 1) = i + 1 + n by omega]; exact h2⟩
theorem Tried.later {p s : List UInt8} {i k mk j m : Nat} {st : Option Nat} (h : Tried e p s i k st mk) (hst : st = some j) (hm : mk < m) (hg : gm e (p.drop (j + 1)) (s.drop m) = true) : k < m + (i - j - 1) ∧ m + (i - j - 1) ≤ max m s.length ∧ gm e (p.drop i) (s.drop (m + (i - j - 1))) = true := by
  obtain ⟨h1, h2, h3, h4⟩ := h.hst j hst
  have hi := h.hi
  obtain ⟨g1, g2⟩ := gm_lits (i - j - 1) (j + 1) (by omega) (fun q h5 h6 => h4 q (by omega) (by omega)) hg
  rw [List.length_drop] at g1
  rw [List.drop_drop, show j + 1 + (i - j - 1) = i by omega] at g2
  exact ⟨by omega, by omega, g2⟩
theorem Tried.star {p s : List UInt8} {i k mk : Nat} {st : Option Nat} (h : Tried e p s i k st mk) (hi : i < p.length) (ha : p.getD i 0 = 42) : Tried e p s (i + 1) k (some i) k := by
  refine ⟨hi, h.hk, fun j hj => ?_, (fun hh => by cases hh), ?_⟩
  · cases hj
    exact ⟨by omega, by omega, ha, fun m h1 h2 => by omega⟩
  · have hk := h.hk
    rw [h.eq, drop_getD hi, ha, gm_star]
    constructor
    · rintro (⟨m, h1, h2⟩ | ⟨j, hj, m, h1, h2, h3⟩)
      · rw [List.length_drop] at h1
        rw [List.drop_drop] at h2
        by_cases hm : m = 0
        · subst hm; exact .inl (by simpa using h2)
        · exact .inr ⟨i, rfl, k + m, by omega, by omega, h2⟩
      · obtain ⟨l1, l2, l3⟩ := h.later hj h1 h3
        rw [drop_getD hi, ha, gm_star] at l3
        obtain ⟨q, q1, q2⟩ := l3
        rw [List.length_drop] at q1
        rw [List.drop_drop] at q2
        refine .inr ⟨i, rfl, m + (i - j - 1) + q, by omega, by omega, q2⟩
    · rintro (h1 | ⟨j, hj, m, h1, h2, h3⟩)
      · exact .inl ⟨0, Nat.zero_le _, by simpa using h1⟩
      · cases hj
        refine .inl ⟨m - k, by rw [List.length_drop]; omega, ?_⟩
        rw [List.drop_drop, show k + (m - k) = m by omega]; exact h3
theorem Tried.lit {p s : List UInt8} {i k mk : Nat} {st : Option Nat} (h : Tried e p s i k st mk) (hi : i < p.length) (hk : k < s.length) (ha : p.getD i 0 ≠ 42) (he : e (p.getD i 0) (s.getD k 0) = true) : Tried e p s (i + 1) (k + 1) st mk := by
  refine ⟨hi, hk, fun j hj => ?_, h.no, ?_⟩
  · obtain ⟨h1, h2, h3, h4⟩ := h.hst j hj
    exact ⟨by omega, by omega, h3, fun m m1 m2 => by
      by_cases hm : m = i
      · subst hm; exact ha
      · exact h4 m m1 (by omega)⟩
  · rw [h.eq, drop_getD hi, drop_getD hk, gm_lit ha, he, Bool.true_and]
theorem Tried.back {p s : List UInt8} {i k mk j : Nat} (h : Tried e p s i k (some j) mk) (hk : k < s.length) (hno : i < p.length → p.getD i 0 ≠ 42 ∧ e (p.getD i 0) (s.getD k 0) = false) : Tried e p s (j + 1) (mk + 1) (some j) (mk + 1) := by
  obtain ⟨h1, h2, h3, h4⟩ := h.hst j rfl
  have hi := h.hi
  refine ⟨by omega, by omega, fun q hq => ?_, (fun hh => by cases hh), ?_⟩
  · cases hq
    exact ⟨by omega, by omega, h3, fun m m1 m2 => by omega⟩
  · have hf : gm e (p.drop i) (s.drop k) = false := by
      by_cases hip : i < p.length
      · obtain ⟨a1, a2⟩ := hno hip
        rw [drop_getD hip, drop_getD hk, gm_lit a1, a2, Bool.false_and]
      · rw [List.drop_eq_nil_of_le (by omega), drop_getD hk, gm]
    rw [h.eq, hf]
    constructor
    · rintro (h5 | ⟨q, hq, m, m1, m2, m3⟩)
      · cases h5
      · cases hq
        by_cases hm : m = mk + 1
        · subst hm; exact .inl m3
        · exact .inr ⟨j, rfl, m, by omega, m2, m3⟩
    · rintro (h5 | ⟨q, hq, m, m1, m2, m3⟩)
      · exact .inr ⟨j, rfl, mk + 1, by omega, by omega, h5⟩
      · cases hq; exact .inr ⟨j, rfl, m, by omega, m2, m3⟩
theorem Tried.fail {p s : List UInt8} {i k mk : Nat} (h : Tried e p s i k none mk) (hk : k < s.length) (hno : i < p.length → p.getD i 0 ≠ 42 ∧ e (p.getD i 0) (s.getD k 0) = false) : gm e p s = false := by
  have hf : gm e (p.drop i) (s.drop k) = false := by
    by_cases hip : i < p.length
    · obtain ⟨a1, a2⟩ := hno hip
      rw [drop_getD hip, drop_getD hk, gm_lit a1, a2, Bool.false_and]
    · rw [List.drop_eq_nil_of_le (by omega), drop_getD hk, gm]
  rw [← Bool.not_eq_true, h.eq, hf]
  rintro (h | ⟨j, hj, _⟩)
  · cases h
  · cases hj
theorem gm_stars : ∀ p : List UInt8, gm e p [] = p.all fun c => decide (c = 42)
  | [] => by rw [gm]; rfl
  | a :: p => by rw [gm, gm_stars p, List.all_cons]
theorem Tried.done {p s : List UInt8} {i k mk : Nat} {st : Option Nat} (h : Tried e p s i k st mk) (hk : s.length ≤ k) : gm e p s = (p.drop i).all fun c => decide (c = 42) := by
  rw [← gm_stars (e := e), Bool.eq_iff_iff, h.eq, List.drop_eq_nil_of_le hk]
  constructor
  · rintro (h1 | ⟨j, hj, m, m1, m2, m3⟩)
    · exact h1
    · obtain ⟨l1, l2, l3⟩ := h.later hj m1 m3
      have := h.hk
      omega
  · exact .inl
end
end Go.Proofs.YtfmbgaaonfgenaaGreatDoor
end
section
namespace Go.Proofs.YtfmbgaaonfgenaaGreatDoor
set_option linter.unusedSimpArgs false
set_option linter.unusedVariables false
set_option maxRecDepth 20000
open Go.RowKit Go.Eng
inductive PC where
  | mk (op : Int) (kids : List PC) (lo hi : Int) (name text : List UInt8)
def PC.op : PC → Int | .mk op _ _ _ _ _ => op
def PC.kids : PC → List PC | .mk _ k _ _ _ _ => k
def PC.lo : PC → Int | .mk _ _ lo _ _ _ => lo
def PC.hi : PC → Int | .mk _ _ _ hi _ _ => hi
def PC.name : PC → List UInt8 | .mk _ _ _ _ n _ => n
def PC.text : PC → List UInt8 | .mk _ _ _ _ _ t => t
mutual
def cntP : PC → Nat
  | .mk _ kids _ _ _ _ => cntL kids + 1
def cntL : List PC → Nat
  | [] => 0
  | k :: r => cntP k + cntL r
end
theorem cntP_pos (c : PC) : 1 ≤ cntP c := by cases c; simp [cntP]
mutual
def depP : PC → Nat
  | .mk _ kids _ _ _ _ => depL kids + 1
def depL : List PC → Nat
  | [] => 0
  | k :: r => max (depP k) (depL r)
end
theorem depL_mem : ∀ {l : List PC} {k : PC}, k ∈ l → depP k ≤ depL l
  | a :: r, k, h => by
    rw [depL]
    rcases List.mem_cons.1 h with rfl | h
    · omega
    · have := depL_mem h; omega
theorem depP_kid {c k : PC} (h : k ∈ c.kids) : depP k < depP c := by
  cases c
  have := depL_mem h
  rw [depP]
  exact Nat.lt_succ_of_le this
/-- an induction over kids -/
theorem PC.ind {Q : PC → Prop} (h : ∀ c, (∀ k ∈ c.kids, Q k) → Q c) (c : PC) : Q c := by
  have key : ∀ (n : Nat) (c : PC), depP c ≤ n → Q c := by
    intro n
    induction n with
    | zero => intro c hc; cases c; simp [depP] at hc
    | succ n ih => intro c hc; exact h c fun k hk => ih k (by have := depP_kid hk; omega)
  exact key _ c (Nat.le_refl _)
mutual
def sizeP : PC → Int → Int
  | .mk _ kids _ _ _ _, most => sizeL kids 1 most
def sizeL : List PC → Int → Int → Int
  | [], n, _ => n
  | k :: r, n, most => if most < n then n else sizeL r (n + sizeP k (most - n)) most
end
mutual
theorem sizeP_eq : ∀ (c : PC) (most : Int), 0 ≤ most → sizeP c most = min (cntP c : Int) (most + 1)
  | .mk _ kids _ _ _ _, most, h => by
    rw [sizeP, sizeL_eq kids 1 most (by omega) (by omega), cntP]
    omega
theorem sizeL_eq : ∀ (l : List PC) (n most : Int), 1 ≤ n → n ≤ most + 1 → sizeL l n most = min (n + cntL l) (most + 1)
  | [], n, most, h1, h2 => by rw [sizeL, cntL]; omega
  | k :: r, n, most, h1, h2 => by
    rw [sizeL, cntL]
    have := cntP_pos k
    split
    · omega
    · rw [sizeP_eq k (most - n) (by omega), sizeL_eq r _ most (by omega) (by omega)]
      omega
end
def inB (n lo hi : Int) : Bool := !(decide (n < lo) || decide (hi < n))
/-! ### Equal -/
mutual
def sameP : PC → PC → Bool
  | .mk op kids lo hi n t, .mk op' kids' lo' hi' n' t' => decide (op = op') && (decide (lo = lo') && (decide (hi = hi') && (decide (n = n') && (decide (t = t') && sameL kids kids'))))
def sameL : List PC → List PC → Bool
  | [], [] => true
  | a :: r, b :: s => sameP a b && sameL r s
  | [], _ :: _ => false
  | _ :: _, [] => false
end
mutual
theorem sameP_refl : ∀ c : PC, sameP c c = true
  | .mk op kids lo hi n t => by simp [sameP, sameL_refl kids]
theorem sameL_refl : ∀ l : List PC, sameL l l = true
  | [] => rfl
  | a :: r => by rw [sameL, sameP_refl a, sameL_refl r]; rfl
end
/-! ### Plain -/
def joinB (op : Int) (k : PC) : Bool := (decide (op = 1) || decide (op = 2)) && decide (k.op = op)
def addK (op : Int) (out : List PC) (k : PC) : List PC := if joinB op k = true then out ++ k.kids else out ++ [k]
def pc0 : PC := .mk 0 [] 0 0 [] []
def finP (op : Int) (kids : List PC) (lo hi : Int) (n t : List UInt8) : PC :=
  if op = 3 ∧ (kids.getD 0 pc0).op = 3 then (kids.getD 0 pc0).kids.getD 0 pc0 else .mk op kids lo hi n t
mutual
def plainP : PC → PC
  | .mk op kids lo hi n t => finP op (plainL op kids []) lo hi n t
def plainL (op : Int) : List PC → List PC → List PC
  | [], out => out
  | k :: r, out => plainL op r (addK op out (plainP k))
end
/-! ### Holds -/
mutual
def holdsP (lf : PC → Bool) : PC → Bool
  | .mk op kids lo hi n t => if op = 1 then holdsA lf kids else if op = 2 then holdsO lf kids else if op = 3 then !holdsF lf kids else lf (.mk op [] lo hi n t)
def holdsA (lf : PC → Bool) : List PC → Bool
  | [] => true
  | k :: r => holdsP lf k && holdsA lf r
def holdsO (lf : PC → Bool) : List PC → Bool
  | [] => false
  | k :: r => holdsP lf k || holdsO lf r
def holdsF (lf : PC → Bool) : List PC → Bool
  | [] => false
  | k :: _ => holdsP lf k
end
theorem holdsA_all (lf : PC → Bool) : ∀ l : List PC, holdsA lf l = l.all (holdsP lf)
  | [] => rfl
  | k :: r => by rw [holdsA, holdsA_all lf r, List.all_cons]
theorem holdsO_any (lf : PC → Bool) : ∀ l : List PC, holdsO lf l = l.any (holdsP lf)
  | [] => rfl
  | k :: r => by rw [holdsO, holdsO_any lf r, List.any_cons]
/-! ### Right -/
section
variable (hd : Int → Nat → Int → Int → List UInt8 → List UInt8 → Int)
mutual
def chkP : PC → Int
  | .mk op kids lo hi n t => if hd op kids.length lo hi n t ≠ 0 then hd op kids.length lo hi n t else chkL kids
def chkL : List PC → Int
  | [] => 0
  | k :: r => if chkP k ≠ 0 then chkP k else chkL r
end
end
end Go.Proofs.YtfmbgaaonfgenaaGreatDoor
end
section
namespace Go.Proofs.YtfmbgaaonfgenaaGreatDoor
set_option linter.unusedSimpArgs false
set_option linter.unusedVariables false
set_option maxRecDepth 20000
open Go.RowKit Go.Eng
section
variable {H : Type} {enc : TypeId × Value → H} {w : World}
def IntOk (n : Int) : Prop := (Lit.int .i64 n).wf = true
def ShortS (s : List UInt8) : Prop := s.length ≤ reachBytes
theorem reach_len : reachBytes ≤ 4611686018427387904 := by decide
def strEnc (l : List UInt8) : List Value := [str l]
theorem op_s : Opn enc Tryz.prog w 9 strEnc ShortS (fun l d => d = .lit (.string l)) := opn_str Tryz.underlying9
theorem op_i : Opn enc Tryz.prog w 3 (fun n : Int => [Value.int .i64 n]) IntOk (fun n d => d = .lit (.int .i64 n)) := opn_int Tryz.underlying3
theorem op_b : Opn enc Tryz.prog w 4 (fun b : Bool => [Value.bool b]) (fun _ => True) (fun b d => d = .lit (.bool b)) := opn_bool Tryz.underlying4
def slV {X : Type} (s : Sl X) : List Value := [.slice s.A s.q s.c]
def frmG (f : Frm) : Prop := ShortS f.m ∧ ShortS f.f ∧ ShortS f.fi
theorem op_frm : Opn enc Tryz.prog w 116 Frm.enc frmG (fun _ _ => True) :=
  (opn_struct Tryz.underlying116 co116 (opf_cons op_s rfl co9 (opf_cons op_s rfl co9 (opf_cons op_s rfl co9 (opf_cons op_i rfl co3 (opf_cons op_i rfl co3 (opf_cons op_b rfl co4 opf_nil))))))).map
    (fun p => (⟨p.1, p.2.1, p.2.2.1, p.2.2.2.1, p.2.2.2.2.1, p.2.2.2.2.2.1⟩ : Frm)) (fun _ => rfl) (fun _ h => ⟨h.1, h.2.1, h.2.2.1⟩) (fun _ _ _ => trivial)
theorem op_frms : Opn enc Tryz.prog w 48 slV (FrmsOk w) (fun _ _ => True) :=
  (opn_slice Tryz.underlying48 co116 (by decide) (by rw [bo116]; decide) (fun _ => rfl) op_frm).map (fun s => s) (fun _ => rfl)
    (fun s h => ⟨h.1, Nat.le_trans h.2.1 reach_len, fun f hf => ⟨Nat.le_trans (h.2.2 f hf).1 reach_len, Nat.le_trans (h.2.2 f hf).2.1 reach_len, Nat.le_trans (h.2.2 f hf).2.2 reach_len⟩⟩) (fun _ _ _ => trivial)
theorem op_flt : Opn enc Tryz.prog w 50 Flt.enc (FltOk w) (fun _ _ => True) :=
  (opn_struct Tryz.underlying50 co50 (opf_cons op_s rfl co9 (opf_cons op_s rfl co9 (opf_cons op_frms rfl co48 opf_nil)))).map
    (fun p => (⟨p.1, p.2.1, p.2.2.1⟩ : Flt)) (fun _ => rfl) (fun _ h => ⟨Nat.le_trans h.1 reach_len, Nat.le_trans h.2.1 reach_len, h.2.2.1⟩) (fun _ _ _ => trivial)
theorem op_flts : Opn enc Tryz.prog w 25 slV (FltsOk w) (fun _ _ => True) :=
  (opn_slice Tryz.underlying25 co50 (by decide) (by rw [bo50]; decide) (fun _ => rfl) op_flt).map (fun s => s) (fun _ => rfl)
    (fun s h => ⟨h.1, Nat.le_trans h.2.1 reach_len, h.2.2⟩) (fun _ _ _ => trivial)
theorem op_tag : Opn enc Tryz.prog w 104 STag.enc (fun t => ShortS t.n ∧ ShortS t.v) (fun _ _ => True) :=
  (opn_struct Tryz.underlying104 co104 (opf_cons op_s rfl co9 (opf_cons op_s rfl co9 opf_nil))).map
    (fun p => (⟨p.1, p.2.1⟩ : STag)) (fun _ => rfl) (fun _ h => ⟨h.1, h.2.1⟩) (fun _ _ _ => trivial)
theorem op_tags : Opn enc Tryz.prog w 26 slV (TagsOk w) (fun _ _ => True) :=
  (opn_slice Tryz.underlying26 co104 (by decide) (by rw [bo104]; decide) (fun _ => rfl) op_tag).map (fun s => s) (fun _ => rfl)
    (fun s h => ⟨h.1, Nat.le_trans h.2.1 reach_len, fun t ht => ⟨Nat.le_trans (h.2.2 t ht).1 reach_len, Nat.le_trans (h.2.2 t ht).2 reach_len⟩⟩) (fun _ _ _ => trivial)
theorem op_crumb : Opn enc Tryz.prog w 107 SCrumb.enc (fun c => IntOk c.at_ ∧ ShortS c.k ∧ ShortS c.t) (fun _ _ => True) :=
  (opn_struct Tryz.underlying107 co107 (opf_cons op_i rfl co3 (opf_cons op_s rfl co9 (opf_cons op_s rfl co9 opf_nil)))).map
    (fun p => (⟨p.1, p.2.1, p.2.2.1⟩ : SCrumb)) (fun _ => rfl) (fun _ h => ⟨h.1, h.2.1, h.2.2.1⟩) (fun _ _ _ => trivial)
theorem op_crumbs : Opn enc Tryz.prog w 27 slV (CrumbsOk w) (fun _ _ => True) :=
  (opn_slice Tryz.underlying27 co107 (by decide) (by rw [bo107]; decide) (fun _ => rfl) op_crumb).map (fun s => s) (fun _ => rfl)
    (fun s h => ⟨h.1, Nat.le_trans h.2.1 reach_len, fun t ht => ⟨Nat.le_trans (h.2.2 t ht).2.1 reach_len, Nat.le_trans (h.2.2 t ht).2.2 reach_len⟩⟩) (fun _ _ _ => trivial)
theorem op_evt : Opn enc Tryz.prog w 29 Evt.enc (Evt.Ok w) (fun _ _ => True) :=
  (opn_struct Tryz.underlying29 co29 (opf_cons op_s rfl co9 (opf_cons op_i rfl co3 (opf_cons op_i rfl co3 (opf_cons op_flts rfl co25 (opf_cons op_tags rfl co26 (opf_cons op_crumbs rfl co27 (opf_cons op_s rfl co9 (opf_cons op_s rfl co9 (opf_cons op_i rfl co3 opf_nil)))))))))).map
    (fun p => (⟨p.1, p.2.1, p.2.2.1, p.2.2.2.1, p.2.2.2.2.1, p.2.2.2.2.2.1, p.2.2.2.2.2.2.1, p.2.2.2.2.2.2.2.1, p.2.2.2.2.2.2.2.2.1⟩ : Evt)) (fun _ => rfl)
    (fun p h => by
      obtain ⟨h1, _, _, h4, h5, h6, h7, h8, _⟩ := h
      exact ⟨h4, h5, h6, Nat.le_trans h1 reach_len, Nat.le_trans h7 reach_len, Nat.le_trans h8 reach_len⟩) (fun _ _ _ => trivial)
end
end Go.Proofs.YtfmbgaaonfgenaaGreatDoor
end
section
namespace Go.Proofs.YtfmbgaaonfgenaaGreatDoor
set_option linter.unusedSimpArgs false
set_option linter.unusedVariables false
set_option maxRecDepth 20000
open Go.RowKit Go.Eng
inductive SC where
  | mk (op : Int) (A : Option Addr) (q c : Nat) (kids : List SC) (lo hi : Int) (name text : List UInt8)
def SC.op : SC → Int | .mk op _ _ _ _ _ _ _ _ => op
def SC.ad : SC → Option Addr | .mk _ A _ _ _ _ _ _ _ => A
def SC.q : SC → Nat | .mk _ _ q _ _ _ _ _ _ => q
def SC.c : SC → Nat | .mk _ _ _ c _ _ _ _ _ => c
def SC.lo : SC → Int | .mk _ _ _ _ _ lo _ _ _ => lo
def SC.hi : SC → Int | .mk _ _ _ _ _ _ hi _ _ => hi
def SC.nm : SC → List UInt8 | .mk _ _ _ _ _ _ _ n _ => n
def SC.tx : SC → List UInt8 | .mk _ _ _ _ _ _ _ _ t => t
def SC.enc (x : SC) : List Value := [.int .i64 x.op, .slice x.ad x.q x.c, .int .i64 x.lo, .int .i64 x.hi, str x.nm, str x.tx]
def SC.val (c : SC) : Value := .agg c.enc.toArray
def SC.kids : SC → List SC | .mk _ _ _ _ k _ _ _ _ => k
def SC.sl : SC → Sl SC | .mk _ A q c k _ _ _ _ => ⟨A, q, c, k⟩
mutual
def SC.says : SC → PC
  | .mk op _ _ _ kids lo hi n t => .mk op (SC.saysL kids) lo hi n t
def SC.saysL : List SC → List PC
  | [] => []
  | k :: r => k.says :: SC.saysL r
end
theorem saysL_map : ∀ l : List SC, SC.saysL l = l.map SC.says
  | [] => rfl
  | k :: r => by rw [SC.saysL, saysL_map r]; rfl
theorem SC.says_mk {op lo hi : Int} {A : Option Addr} {q c : Nat} {kids : List SC} {n t : List UInt8} : (SC.mk op A q c kids lo hi n t).says = .mk op (kids.map SC.says) lo hi n t := by rw [SC.says, saysL_map]
theorem SC.says_kids (c : SC) : c.says.kids = c.kids.map SC.says := by cases c; rw [SC.says_mk]; rfl
inductive SC.Ok (w : World) : SC → Prop where
  | mk {op lo hi : Int} {A : Option Addr} {q c : Nat} {kids : List SC} {n t : List UInt8} (h : Sl.Ok SC.enc 6 w ⟨A, q, c, kids⟩) (hq : q ≤ 4611686018427387904) (hb : q * 80 ≤ 140737488355328) (hn : n.length ≤ 4611686018427387904) (ht : t.length ≤ 4611686018427387904) (hk : ∀ k ∈ kids, SC.Ok w k) : SC.Ok w (.mk op A q c kids lo hi n t)
/-- how deep it is -/
abbrev SC.dep (c : SC) : Nat := depP c.says
theorem SC.dep_kid {c k : SC} (hk : k ∈ c.kids) : k.dep < c.dep := depP_kid (by rw [SC.says_kids]; exact List.mem_map_of_mem hk)
theorem SC.ind {Q : SC → Prop} (h : ∀ c, (∀ k ∈ c.kids, Q k) → Q c) (c : SC) : Q c := by
  have key : ∀ (n : Nat) (c : SC), c.dep ≤ n → Q c := by
    intro n
    induction n with
    | zero => intro c hc; cases c; simp [SC.dep, SC.says, depP] at hc
    | succ n ih => intro c hc; exact h c fun k hk => ih k (by have := SC.dep_kid hk; omega)
  exact key _ c (Nat.le_refl _)
section
variable {H : Type} {enc : TypeId × Value → H} {w : World}
end
end Go.Proofs.YtfmbgaaonfgenaaGreatDoor
end
section
namespace Go.Proofs.YtfmbgaaonfgenaaGreatDoor
set_option linter.unusedSimpArgs false
set_option linter.unusedVariables false
set_option maxRecDepth 20000
open Go.RowKit Go.Eng
theorem SC.Ok.parts {x : SC} {w : World} (h : x.Ok w) : Sl.Ok SC.enc 6 w ⟨x.ad, x.q, x.c, x.kids⟩ ∧ x.q ≤ 4611686018427387904 ∧ x.q * 80 ≤ 140737488355328 ∧ x.nm.length ≤ 4611686018427387904 ∧ x.tx.length ≤ 4611686018427387904 ∧ ∀ k ∈ x.kids, k.Ok w := by
  cases h with
  | mk h1 h2 h3 h4 h5 h6 => exact ⟨h1, h2, h3, h4, h5, h6⟩
end Go.Proofs.YtfmbgaaonfgenaaGreatDoor
end
section
namespace Go.Proofs.YtfmbgaaonfgenaaGreatDoor
set_option linter.unusedSimpArgs false
set_option linter.unusedVariables false
set_option maxRecDepth 20000
open Go.RowKit Go.Eng
theorem SC.says_form (x : SC) : x.says = .mk x.op (x.kids.map SC.says) x.lo x.hi x.nm x.tx := by cases x; rw [SC.says_mk]; rfl
end Go.Proofs.YtfmbgaaonfgenaaGreatDoor
end
section
namespace Go.Proofs.YtfmbgaaonfgenaaGreatDoor
set_option linter.unusedSimpArgs false
set_option linter.unusedVariables false
set_option maxRecDepth 20000
open Go.RowKit Go.Eng
end Go.Proofs.YtfmbgaaonfgenaaGreatDoor
end
section
namespace Go.Proofs.YtfmbgaaonfgenaaGreatDoor
set_option linter.unusedSimpArgs false
set_option linter.unusedVariables false
set_option maxRecDepth 20000
open Go.RowKit Go.Eng
def lowN (n : Nat) : Nat := if 65 ≤ n ∧ n ≤ 90 then n + 32 else n
def eqL (a b : UInt8) : Bool := decide (((lowN a.toNat : Nat) : Int) = ((lowN b.toNat : Nat) : Int))
def stI (st : Option Nat) : Int := st.elim (-1) fun j => (j : Int)
theorem Tried.mk_le {e : UInt8 → UInt8 → Bool} {p s : List UInt8} {i k mk : Nat} {st : Option Nat} (h : Tried e p s i k st mk) : mk ≤ k := by
  cases st with
  | none => rw [h.no rfl]; exact Nat.zero_le _
  | some j => have := (h.hst j rfl).2.1; omega
theorem lit_star {p : List UInt8} {i : Nat} (h : (decide (((i : Nat) : Int) < ((p.length : Nat) : Int)) && decide ((((p.getD i 0).toNat : Nat) : Int) = 42)) = true) : i < p.length ∧ p.getD i 0 = 42 := by
  simp only [Bool.and_eq_true, decide_eq_true_eq] at h
  exact ⟨by omega, UInt8.toNat_inj.1 (by show (p.getD i 0).toNat = 42; omega)⟩
theorem lit_no {p : List UInt8} {i : Nat} (h : (decide (((i : Nat) : Int) < ((p.length : Nat) : Int)) && decide ((((p.getD i 0).toNat : Nat) : Int) = 42)) = false) : i < p.length → p.getD i 0 ≠ 42 := by
  intro hi e
  rw [decide_eq_true (by omega), Bool.true_and, decide_eq_false_iff_not] at h
  exact h (by rw [e]; rfl)
theorem mu_star {a b c d e C : Nat} (h : a ≤ b) (h2 : d + 1 ≤ e) : (c - b) * C + (e - (d + 1)) < (c - a) * C + (e - d) := by
  have : (c - b) * C ≤ (c - a) * C := Nat.mul_le_mul_right C (by omega)
  omega
theorem mu_back {m c C x y : Nat} (h : m + 1 ≤ c) (hx : x < C) : (c - (m + 1)) * C + x < (c - m) * C + y := by
  have : (c - m) * C = (c - (m + 1)) * C + C := by rw [show c - m = (c - (m + 1)) + 1 by omega, Nat.succ_mul]
  omega
theorem dropWhile_nilF {p : UInt8 → Bool} : ∀ {l : List UInt8}, l.dropWhile p = [] → ∀ c ∈ l, p c = true
  | [], _ => fun c h => by cases h
  | a :: r, h => fun c hc => by
    rw [List.dropWhile_cons] at h
    split at h
    · rcases List.mem_cons.1 hc with rfl | hc
      · assumption
      · exact dropWhile_nilF h c hc
    · cases h
theorem dropWhile_headF {p : UInt8 → Bool} : ∀ {l : List UInt8} {y : UInt8} {t : List UInt8}, l.dropWhile p = y :: t → p y = false
  | [], y, t, h => by simp at h
  | a :: r, y, t, h => by
    rw [List.dropWhile_cons] at h
    split at h
    · exact dropWhile_headF h
    · rename_i hp
      obtain ⟨rfl, _⟩ := List.cons.inj h
      simpa using hp
theorem trimS_nilF {s cs : List UInt8} (h : Lib.trimS s cs = []) : ∀ c ∈ s, cs.contains c = true := by
  have h1 := dropWhile_nilF (l := Lib.trimRightS s cs) h
  have h2 : s.reverse.dropWhile (cs.contains ·) = [] := by
    cases hq : s.reverse.dropWhile (cs.contains ·) with
    | nil => rfl
    | cons y t =>
      have h3 := dropWhile_headF hq
      have h4 := h1 y (by unfold Lib.trimRightS; rw [hq]; simp)
      rw [h3] at h4; cases h4
  intro c hc
  exact dropWhile_nilF h2 c (List.mem_reverse.2 hc)
theorem dropWhile_allF {p : UInt8 → Bool} : ∀ {l : List UInt8}, (∀ c ∈ l, p c = true) → l.dropWhile p = []
  | [], _ => rfl
  | a :: r, h => by rw [List.dropWhile_cons, if_pos (h a (List.mem_cons_self ..)), dropWhile_allF fun c hc => h c (List.mem_cons_of_mem _ hc)]
theorem trimS_allF {s cs : List UInt8} (h : ∀ c ∈ s, cs.contains c = true) : Lib.trimS s cs = [] := by
  have h2 : s.reverse.dropWhile (cs.contains ·) = [] := dropWhile_allF fun c hc => h c (List.mem_reverse.1 hc)
  have h3 : Lib.trimRightS s cs = [] := by unfold Lib.trimRightS; rw [h2]; rfl
  unfold Lib.trimS; rw [h3]; rfl
theorem all_trim (s : List UInt8) : decide (Lib.trimS s [42] = []) = s.all fun c => decide (c = 42) := by
  rw [Bool.eq_iff_iff, decide_eq_true_eq, List.all_eq_true]
  constructor
  · intro h c hc
    have := trimS_nilF h c hc
    simpa using this
  · intro h
    exact trimS_allF fun c hc => by have := h c hc; simpa using this
end Go.Proofs.YtfmbgaaonfgenaaGreatDoor
end
section
namespace Go.Proofs.YtfmbgaaonfgenaaGreatDoor
set_option linter.unusedSimpArgs false
set_option linter.unusedVariables false
set_option maxRecDepth 20000
open Go.RowKit Go.Eng
def eqI (a b : UInt8) : Bool := decide (((a.toNat : Nat) : Int) = ((b.toNat : Nat) : Int))
theorem Matches_any (p s : List UInt8) (w : World) (hp : p.length ≤ 1000000000) (hs : s.length ≤ 4611686018427387904) :
    Calls Tryz.prog 173 #[str p, str s] w fun e w' => e = .returned (.bool (gm eqI p s)) ∧ Below w.heap.size w w' := by
  refine enter_args (args := [str p, str s]) (F := _) Tryz.func173 rfl Tryz.ntmps173 rfl rfl ?_
  intro Rb hRb hRn
  refine T_seq ?_
  refine T_region ?_
  refine S_ 4 rfl rfl rfl _ (y_assign rfl rfl) ?_
  refine S_go (fun _ _ h => h) ?_
  refine T_seq ?_
  refine T_region ?_
  refine S_ 5 rfl rfl rfl _ (y_assign rfl rfl) ?_
  refine S_ 6 rfl rfl rfl _ (y_assign rfl rfl) ?_
  refine S_ 7 rfl rfl rfl _ (y_assign rfl rfl) ?_
  refine S_go (fun _ _ h => h) ?_
  refine T_seq ?_
  refine T_seq ?_
  refine T_region ?_
  refine S_ 8 rfl rfl rfl _ (y_assign rfl rfl) ?_
  refine S_go (fun _ _ h => h) ?_
  refine T_block ?_
  refine T_loopK4 (kf := [(4, 53)]) (kl := [(4, 53)]) (fun (i : Nat) (k : Nat) (st : Option Nat) (mk : Nat) => [(5, true, .int .i64 (i : Int)), (6, true, .int .i64 (stI st)), (7, true, .int .i64 (mk : Int)), (8, true, .int .i64 (k : Int))]) (fun (i : Nat) (k : Nat) (st : Option Nat) (mk : Nat) => []) (fun (i : Nat) (k : Nat) (st : Option Nat) (mk : Nat) => Tried eqI p s i k st mk) (fun (i : Nat) (k : Nat) (st : Option Nat) (mk : Nat) => (s.length - mk) * (p.length + s.length + 2) + ((p.length + s.length + 1) - (i + k))) 0 0 none 0 (by repeat (first | exact kf_nil | (apply kf_in; focus rfl) | (apply kf_out; focus rfl))) (by repeat (first | exact kl_nil | exact kl_rest (by assumption) rfl | (apply kl_in; focus rfl) | (apply kl_out; focus rfl))) ?_ ?_ ?_ ?_
  · exact Tried.start p s
  · exact ⟨rfl, rfl, rfl, rfl, trivial⟩
  · exact trivial
  rintro i k st mk ht
  refine T_seq ?_
  refine T_seq ?_
  refine T_region ?_
  refine S_ 9 rfl rfl rfl _ (y_move rfl rfl) ?_
  refine S_ 10 rfl rfl rfl _ (y_move rfl rfl) ?_
  refine S_ 11 rfl rfl rfl _ (y_len_str rfl rfl Tryz.underlying9) ?_
  refine S_ 12 rfl rfl rfl _ (y_bin rfl rfl rfl (fun _ => b_lss)) ?_
  refine S_go (fun _ _ h => h) ?_
  refine T_cond rfl (fun h12 => ?_) (fun h12 => ?_)
  · try simp only [decide_eq_true_eq, decide_eq_false_iff_not, Bool.or_eq_true, Bool.or_eq_false_iff, Bool.and_eq_true, Bool.and_eq_false_iff, Bool.not_eq_true', Bool.not_eq_false', Bool.not_eq_true, Bool.not_eq_false, Bool.not_true, Bool.not_false, Int.not_lt, Int.not_le, not_or, not_and, Classical.not_not] at h12
    have hk : k < s.length := by omega
    have hmk := ht.mk_le
    have hil := ht.hi
    refine T_skip_go (fun _ _ h => h) ?_
    refine T_block ?_
    refine T_block ?_
    refine T_seq ?_
    refine T_region ?_
    refine S_ 14 rfl rfl rfl _ (y_move rfl rfl) ?_
    refine S_ 15 rfl rfl rfl _ (y_move rfl rfl) ?_
    refine S_ 16 rfl rfl rfl _ (y_len_str rfl rfl Tryz.underlying9) ?_
    refine S_ 17 rfl rfl rfl _ (y_bin rfl rfl rfl (fun _ => b_lss)) ?_
    refine S_ 18 rfl rfl rfl _ (y_move rfl rfl) ?_
    refine Sg_ 19 rfl rfl rfl rfl rfl rfl _ (y_move rfl rfl) ?_
    refine Sg_ 20 rfl rfl rfl rfl rfl rfl _ (y_move rfl rfl) ?_
    refine Sg_ 21 rfl rfl rfl rfl rfl rfl _ (y_index_str rfl rfl rfl Tryz.underlying9 (fun hg => by simp only [Bool.true_and, Bool.and_eq_true, beq_iff_eq, decide_eq_true_eq, decide_eq_false_iff_not, Int.not_lt, Int.not_le] at hg; omega)) ?_
    refine Sg_ 22 rfl rfl rfl rfl rfl rfl _ (y_bin rfl rfl rfl (fun _ => b_eql)) ?_
    refine S_ 23 rfl rfl rfl _ (y_and rfl rfl rfl) ?_
    refine S_ 13 rfl rfl rfl _ (y_assign rfl rfl) ?_
    refine S_go (fun _ _ h => h) ?_
    refine T_cond rfl (fun h13 => ?_) (fun h13 => ?_)
    · skip
      have hi : i < p.length ∧ p.getD i 0 = 42 := lit_star h13
      refine T_seq ?_
      refine T_region ?_
      refine S_ 24 rfl rfl rfl _ (y_move rfl rfl) ?_
      refine S_ 25 rfl rfl rfl _ (y_move rfl rfl) ?_
      refine S_ 6 rfl rfl rfl _ (y_assign rfl rfl) ?_
      refine S_ 7 rfl rfl rfl _ (y_assign rfl rfl) ?_
      refine S_go (fun _ _ h => h) ?_
      refine T_region ?_
      refine S_ 26 rfl rfl rfl _ (y_move rfl rfl) ?_
      refine S_ 27 rfl rfl rfl _ (y_bin rfl rfl rfl (fun hg => b_add (by omega))) ?_
      refine S_ 5 rfl rfl rfl _ (y_assign rfl rfl) ?_
      refine S_nil (nextK4 (kf := [(4, 53)]) (kl := [(4, 53)]) (i + 1) k (some i) k (by repeat (first | exact kf_nil | (apply kf_in; focus rfl) | (apply kf_out; focus rfl))) (by repeat (first | exact kl_nil | exact kl_rest (by assumption) rfl | (apply kl_in; focus rfl) | (apply kl_out; focus rfl))) ?_ ?_ ?_ ?_)
      · simpa only [show i + 1 + k = i + k + 1 by omega] using mu_star (C := p.length + s.length + 2) (c := s.length) (d := i + k) (e := p.length + s.length + 1) hmk (by omega)
      · exact ht.star hi.1 hi.2
      · exact ⟨rfl, rfl, rfl, rfl, trivial⟩
      · exact trivial
    · skip
      have hns : i < p.length → p.getD i 0 ≠ 42 := lit_no h13
      refine T_seq ?_
      refine T_draws (by kernel_rfl) (by kernel_rfl) ?_
      refine D_ 29 rfl rfl rfl _ (y_move rfl rfl) ?_
      refine D_ 30 rfl rfl rfl _ (y_move rfl rfl) ?_
      refine D_ 31 rfl rfl rfl _ (y_len_str rfl rfl Tryz.underlying9) ?_
      refine D_ 32 rfl rfl rfl _ (y_bin rfl rfl rfl (fun _ => b_lss)) ?_
      refine D_ 33 rfl rfl rfl _ (y_move rfl rfl) ?_
      refine Dg_ 34 rfl rfl rfl rfl rfl rfl _ (y_move rfl rfl) ?_
      refine Dg_ 35 rfl rfl rfl rfl rfl rfl _ (y_move rfl rfl) ?_
      refine Dg_ 36 rfl rfl rfl rfl rfl rfl _ (y_index_str rfl rfl rfl Tryz.underlying9 (fun hg => by simp only [Bool.true_and, Bool.and_eq_true, beq_iff_eq, decide_eq_true_eq, decide_eq_false_iff_not, Int.not_lt, Int.not_le] at hg; omega)) ?_
      refine Dg_ 37 rfl rfl rfl rfl rfl rfl _ (y_move rfl rfl) ?_
      refine Dg_ 38 rfl rfl rfl rfl rfl rfl _ (y_move rfl rfl) ?_
      refine Dg_ 39 rfl rfl rfl rfl rfl rfl _ (y_index_str rfl rfl rfl Tryz.underlying9 (fun hg => by simp only [Bool.true_and, Bool.and_eq_true, beq_iff_eq, decide_eq_true_eq, decide_eq_false_iff_not, Int.not_lt, Int.not_le] at hg; omega)) ?_
      refine Dg_ 40 rfl rfl rfl rfl rfl rfl _ (y_bin rfl rfl rfl (fun _ => b_eql)) ?_
      refine D_ 41 rfl rfl rfl _ (y_and rfl rfl rfl) ?_
      refine D_ 28 rfl rfl rfl _ (y_assign rfl rfl) ?_
      refine D_go (fun _ _ h => h) ?_
      refine T_cond rfl (fun h28 => ?_) (fun h28 => ?_)
      · skip
        have hi : i < p.length ∧ eqI (p.getD i 0) (s.getD k 0) = true := by simp only [Bool.and_eq_true, decide_eq_true_eq] at h28; exact ⟨by omega, decide_eq_true h28.2⟩
        refine T_seq ?_
        refine T_region ?_
        refine S_ 42 rfl rfl rfl _ (y_move rfl rfl) ?_
        refine S_ 43 rfl rfl rfl _ (y_bin rfl rfl rfl (fun hg => b_add (by omega))) ?_
        refine S_ 5 rfl rfl rfl _ (y_assign rfl rfl) ?_
        refine S_go (fun _ _ h => h) ?_
        refine T_region ?_
        refine S_ 44 rfl rfl rfl _ (y_move rfl rfl) ?_
        refine S_ 45 rfl rfl rfl _ (y_bin rfl rfl rfl (fun hg => b_add (by omega))) ?_
        refine S_ 8 rfl rfl rfl _ (y_assign rfl rfl) ?_
        refine S_nil (nextK4 (kf := [(4, 53)]) (kl := [(4, 53)]) (i + 1) (k + 1) st mk (by repeat (first | exact kf_nil | (apply kf_in; focus rfl) | (apply kf_out; focus rfl))) (by repeat (first | exact kl_nil | exact kl_rest (by assumption) rfl | (apply kl_in; focus rfl) | (apply kl_out; focus rfl))) ?_ ?_ ?_ ?_)
        · omega
        · exact ht.lit hi.1 hk (hns hi.1) hi.2
        · exact ⟨rfl, rfl, rfl, rfl, trivial⟩
        · exact trivial
      · skip
        have hno : i < p.length → p.getD i 0 ≠ 42 ∧ eqI (p.getD i 0) (s.getD k 0) = false := fun h => ⟨hns h, by rw [decide_eq_true (show ((i : Nat) : Int) < p.length by omega), Bool.true_and] at h28; exact h28⟩
        refine T_seq ?_
        refine T_region ?_
        refine S_ 47 rfl rfl rfl _ (y_move rfl rfl) ?_
        refine S_ 48 rfl rfl rfl _ (y_bin rfl rfl rfl (fun _ => b_geq)) ?_
        refine S_ 46 rfl rfl rfl _ (y_assign rfl rfl) ?_
        refine S_go (fun _ _ h => h) ?_
        refine T_cond rfl (fun h46 => ?_) (fun h46 => ?_)
        · skip
          obtain ⟨j, rfl⟩ : ∃ j, st = some j := by cases st with
            | none => simp [stI] at h46 <;> omega
            | some j => exact ⟨j, rfl⟩
          have hji := (ht.hst j rfl).1
          refine T_seq ?_
          refine T_region ?_
          refine S_ 49 rfl rfl rfl _ (y_move rfl rfl) ?_
          refine S_ 50 rfl rfl rfl _ (y_bin rfl rfl rfl (fun hg => b_add (by omega))) ?_
          refine S_ 7 rfl rfl rfl _ (y_assign rfl rfl) ?_
          refine S_go (fun _ _ h => h) ?_
          refine T_region ?_
          refine S_ 51 rfl rfl rfl _ (y_as (v' := .int .i64 ((j : Nat) : Int)) (by exact rfl) (y_move rfl rfl)) ?_
          refine S_ 52 rfl rfl rfl _ (y_bin rfl rfl rfl (fun hg => b_add (by omega))) ?_
          refine S_ 53 rfl rfl rfl _ (y_move rfl rfl) ?_
          refine S_ 5 rfl rfl rfl _ (y_assign rfl rfl) ?_
          refine S_ 8 rfl rfl rfl _ (y_assign rfl rfl) ?_
          refine S_nil (nextK4 (kf := [(4, 53)]) (kl := [(4, 53)]) (j + 1) (mk + 1) (some j) (mk + 1) (by repeat (first | exact kf_nil | (apply kf_in; focus rfl) | (apply kf_out; focus rfl))) (by repeat (first | exact kl_nil | exact kl_rest (by assumption) rfl | (apply kl_in; focus rfl) | (apply kl_out; focus rfl))) ?_ ?_ ?_ ?_)
          · exact mu_back (by omega) (by omega)
          · exact ht.back hk hno
          · exact ⟨rfl, rfl, rfl, rfl, trivial⟩
          · exact trivial
        · skip
          have hst : st = none := by cases st with
            | none => rfl
            | some j => simp [stI] at h46 <;> omega
          subst hst
          refine T_seq ?_
          refine T_region ?_
          refine S_ 4 rfl rfl rfl _ (y_assign rfl rfl) ?_
          refine S_go (fun _ _ h => h) ?_
          refine T_ret (fun a w hF hM => hRb a w (post1 rfl rfl (fun w hM => ?_) a w hF hM))
          exact ⟨by rw [ht.fail hk hno], hM.below⟩
  · try simp only [decide_eq_true_eq, decide_eq_false_iff_not, Bool.or_eq_true, Bool.or_eq_false_iff, Bool.and_eq_true, Bool.and_eq_false_iff, Bool.not_eq_true', Bool.not_eq_false', Bool.not_eq_true, Bool.not_eq_false, Bool.not_true, Bool.not_false, Int.not_lt, Int.not_le, not_or, not_and, Classical.not_not] at h12
    have hk : s.length ≤ k := by omega
    have hil := ht.hi
    refine T_exit_go (fun _ _ h => h) ?_
    refine T_seq ?_
    refine T_region ?_
    refine S_ 54 rfl rfl rfl _ (y_move rfl rfl) ?_
    refine S_ 55 rfl rfl rfl _ (y_move rfl rfl) ?_
    refine S_ 56 rfl rfl rfl _ (y_strFrom rfl rfl rfl Tryz.underlying9 (fun _ => by omega)) ?_
    refine S_ 57 rfl rfl rfl _ (y_call rfl rfl rfl cf72 (fun _ w _ => Any.strings_Trim_laid Tryz.lays160 (by kernel_rfl) ⟨(p.drop i).toArray⟩ ⟨([42] : List UInt8).toArray⟩ w (by rw [Lib.size_eq]; simp; omega) (by decide) (ascii_of_all (by decide)))) ?_
    refine S_ 58 rfl rfl rfl _ (y_bin rfl rfl rfl (fun _ => b_eqls)) ?_
    refine S_ 4 rfl rfl rfl _ (y_assign rfl rfl) ?_
    refine S_go (fun _ _ h => h) ?_
    refine T_ret (fun a w hF hM => hRb a w (post1 rfl rfl (fun w hM => ?_) a w hF hM))
    exact ⟨by rw [ht.done hk, ← all_trim], hM.below⟩
end Go.Proofs.YtfmbgaaonfgenaaGreatDoor
end
section
namespace Go.Proofs.YtfmbgaaonfgenaaGreatDoor
set_option linter.unusedSimpArgs false
set_option linter.unusedVariables false
set_option maxRecDepth 20000
open Go.RowKit Go.Eng
/-- what a fault says -/
def Flt.cont (f : Flt) : List UInt8 × List UInt8 × List Frm := (f.k, f.t, f.fr.l)
structure CopyR where
  A : Option Addr
  c : Nat
  gs : List Flt
  rs : List Row
  B : Option Addr
  b : Nat
  D : Option Addr
  d : Nat
def CopyR.evt (z : CopyR) (e : Evt) : Evt := { e with fa := ⟨z.A, e.fa.q, z.c, z.gs⟩, ta := ⟨z.B, e.ta.q, z.b, e.ta.l⟩, cr := ⟨z.D, e.cr.q, z.d, e.cr.l⟩ }
def CopyR.L (z : CopyR) (e : Evt) : HL := [(8, .own 50 3 (.slice z.A e.fa.q z.c) e.fa.q (z.gs.flatMap Flt.enc)), (900, .many z.rs), (35, .own 104 2 (.slice z.B e.ta.q z.b) e.ta.q (e.ta.l.flatMap STag.enc)), (39, .own 107 3 (.slice z.D e.cr.q z.d) e.cr.q (e.cr.l.flatMap SCrumb.enc))]
theorem set_next {gs : List Flt} {l : List Flt} {x y : Flt} {i : Nat} (hg : gs.length = i) (h : l.drop i = x :: l.drop (i + 1)) : (gs ++ l.drop i).set i y = (gs ++ [y]) ++ l.drop (i + 1) := by
  subst hg
  rw [h]; simp
theorem at_next {gs : List Flt} {l : List Flt} {x : Flt} {i : Nat} (hg : gs.length = i) (h : l.drop i = x :: l.drop (i + 1)) : (gs ++ l.drop i)[i]? = some x := by
  subst hg
  rw [h]; simp
theorem take_at {α : Type} {l : List α} {i : Nat} {x : α} (h : l[i]? = some x) : l.take (i + 1) = l.take i ++ [x] := by
  rw [List.take_add_one, h]; rfl
end Go.Proofs.YtfmbgaaonfgenaaGreatDoor
end
section
namespace Go.Proofs.YtfmbgaaonfgenaaGreatDoor
set_option linter.unusedSimpArgs false
set_option linter.unusedVariables false
set_option maxRecDepth 20000
open Go.RowKit Go.Eng
/-! ### lists that are mapped from their head on -/
def mpL {α : Type} (f : α → α) (l : List α) (i : Nat) : List α := (l.take i).map f ++ l.drop i
section
variable {α : Type} {f : α → α} {l : List α} {i : Nat} {x : α}
theorem mpL_0 : mpL f l 0 = l := by simp [mpL]
theorem mpL_end (h : l.length ≤ i) : mpL f l i = l.map f := by rw [mpL, List.take_of_length_le h, List.drop_eq_nil_of_le h, List.append_nil]
theorem mpL_len : (mpL f l i).length = l.length := by simp only [mpL, List.length_append, List.length_map, List.length_take, List.length_drop]; omega
theorem mpL_at (h : l[i]? = some x) : (mpL f l i)[i]? = some x := by
  have hl := (List.getElem?_eq_some_iff.1 h).1
  rw [mpL, List.getElem?_append_right (by rw [List.length_map, List.length_take]; omega), List.length_map, List.length_take, List.getElem?_drop]
  rw [show i + (i - min i l.length) = i by omega]; exact h
theorem mpL_set (h : l[i]? = some x) : (mpL f l i).set i (f x) = mpL f l (i + 1) := by
  have hl := (List.getElem?_eq_some_iff.1 h).1
  have hx : l[i] = x := (List.getElem?_eq_some_iff.1 h).2
  have hlen : ((l.take i).map f).length = i := by rw [List.length_map, List.length_take]; omega
  rw [mpL, mpL, List.drop_eq_getElem_cons hl, hx, List.set_append_right _ _ (by omega), hlen, Nat.sub_self, List.set_cons_zero, List.take_add_one, h]
  simp
theorem mpL_same (h : l[i]? = some x) (hf : f x = x) : mpL f l (i + 1) = mpL f l i := by
  rw [← mpL_set h, hf]
  have hi := mpL_at (f := f) h
  obtain ⟨hl, e⟩ := List.getElem?_eq_some_iff.1 hi
  rw [← e, List.set_getElem_self]
theorem mpL_at1 (h : l[i]? = some x) : (mpL f l (i + 1))[i]? = some (f x) := by
  have hl := (List.getElem?_eq_some_iff.1 h).1
  rw [← mpL_set h, List.getElem?_set_self (by rw [mpL_len]; exact hl)]
theorem mpL_map {β : Type} {h : α → β} (hf : ∀ x, h (f x) = h x) : (mpL f l i).map h = l.map h := by
  rw [mpL, List.map_append, List.map_map]
  have : (l.take i).map (h ∘ f) = (l.take i).map h := List.map_congr_left fun x _ => hf x
  rw [this, ← List.map_append, List.take_append_drop]
/-! ### sums -/
def sm (f : α → Nat) (l : List α) : Nat := (l.map f).sum
def smT (f : α → Nat) (l : List α) (i : Nat) : Nat := sm f (l.take i)
variable {k : α → Nat}
theorem smT_0 : smT k l 0 = 0 := by simp [smT, sm]
theorem smT_end (h : l.length ≤ i) : smT k l i = sm k l := by rw [smT, List.take_of_length_le h]
theorem smT_next (h : l[i]? = some x) : smT k l (i + 1) = smT k l i + k x := by
  rw [smT, smT, List.take_add_one, h]
  simp [sm]
theorem sm_le {B : Nat} : ∀ {l : List α}, (∀ x ∈ l, k x ≤ B) → sm k l ≤ l.length * B
  | [], _ => by simp [sm]
  | a :: r, h => by
    have h1 := sm_le (l := r) fun x hx => h x (List.mem_cons_of_mem _ hx)
    have h2 := h a (List.mem_cons_self ..)
    have e : sm k (a :: r) = k a + sm k r := by simp [sm]
    rw [e, List.length_cons, Nat.succ_mul]; omega
theorem smT_le {B : Nat} (h : ∀ x ∈ l, k x ≤ B) : smT k l i ≤ l.length * B := by
  refine Nat.le_trans (sm_le fun x hx => h x (List.mem_of_mem_take hx)) (Nat.mul_le_mul_right _ ?_)
  rw [List.length_take]; omega
theorem sm_zero : ∀ {l : List α}, (∀ x ∈ l, k x = 0) → sm k l = 0
  | [], _ => rfl
  | a :: r, h => by
    have e : sm k (a :: r) = k a + sm k r := by simp [sm]
    rw [e, h a (List.mem_cons_self ..), sm_zero fun x hx => h x (List.mem_cons_of_mem _ hx)]
end
/-! ### the rule's work -/
def mk (r : SRl) (s : List UInt8) : List UInt8 := putM s 0 (fndR r s)
def clT (r : SRl) (t : STag) : STag := if gm eqI r.nm t.n = true then { t with v := mk r t.v } else t
def cnT (r : SRl) (t : STag) : Nat := if gm eqI r.nm t.n = true then (fndR r t.v).length else 0
def clC (r : SRl) (c : SCrumb) : SCrumb := if gm eqI r.nm c.k = true then { c with t := mk r c.t } else c
def cnC (r : SRl) (c : SCrumb) : Nat := if gm eqI r.nm c.k = true then (fndR r c.t).length else 0
def clM (r : SRl) (x : Frm) : Frm := { x with fi := mk r x.fi }
def cnM (r : SRl) (x : Frm) : Nat := (fndR r x.fi).length
def clF (r : SRl) (f : Flt) : Flt := ⟨f.k, if r.wh = 1 then mk r f.t else f.t, ⟨f.fr.A, f.fr.q, f.fr.c, if r.wh = 5 then f.fr.l.map (clM r) else f.fr.l⟩⟩
def cnX (r : SRl) (f : Flt) : Nat := if r.wh = 1 then (fndR r f.t).length else 0
def cnF (r : SRl) (f : Flt) : Nat := cnX r f + if r.wh = 5 then sm (cnM r) f.fr.l else 0
def taR (r : SRl) (e : Evt) : List STag := if r.wh = 2 then e.ta.l.map (clT r) else e.ta.l
def crR (r : SRl) (e : Evt) : List SCrumb := if r.wh = 3 then e.cr.l.map (clC r) else e.cr.l
def usR (r : SRl) (e : Evt) : List UInt8 := if r.wh = 4 then mk r e.us else e.us
def m0R (r : SRl) (e : Evt) : Nat := if r.wh = 2 then sm (cnT r) e.ta.l else if r.wh = 3 then sm (cnC r) e.cr.l else if r.wh = 4 then (fndR r e.us).length else 0
def clE (r : SRl) (e : Evt) : Evt := ⟨e.id, e.at_, e.lv, ⟨e.fa.A, e.fa.q, e.fa.c, e.fa.l.map (clF r)⟩, ⟨e.ta.A, e.ta.q, e.ta.c, taR r e⟩, ⟨e.cr.A, e.cr.q, e.cr.c, crR r e⟩, e.rel, usR r e, e.wt⟩
def cnE (r : SRl) (e : Evt) : Nat := m0R r e + sm (cnF r) e.fa.l
theorem mk_len (r : SRl) (s : List UInt8) : (mk r s).length = s.length := by rw [mk, putM_len s (fndR_ok r s)]; omega
/-! ### what is bounded -/
structure LenE (e : Evt) : Prop where
  us : e.us.length ≤ 5000
  ta : ∀ t ∈ e.ta.l, t.n.length ≤ 4611686018427387904 ∧ t.v.length ≤ 5000
  cr : ∀ c ∈ e.cr.l, c.k.length ≤ 4611686018427387904 ∧ c.t.length ≤ 5000
  fa : ∀ f ∈ e.fa.l, f.t.length ≤ 5000 ∧ f.fr.q ≤ 1000 ∧ f.fr.l.length = f.fr.q ∧ ∀ x ∈ f.fr.l, x.fi.length ≤ 5000
  fq : e.fa.q ≤ 1000 ∧ e.fa.l.length = e.fa.q
  tq : e.ta.q ≤ 1000 ∧ e.ta.l.length = e.ta.q
  cq : e.cr.q ≤ 1000 ∧ e.cr.l.length = e.cr.q
theorem clT_len {r : SRl} {t : STag} (h : t.n.length ≤ 4611686018427387904 ∧ t.v.length ≤ 5000) : (clT r t).n.length ≤ 4611686018427387904 ∧ (clT r t).v.length ≤ 5000 := by
  unfold clT; split
  · exact ⟨h.1, by show (mk r t.v).length ≤ _; rw [mk_len]; exact h.2⟩
  · exact h
theorem clC_len {r : SRl} {t : SCrumb} (h : t.k.length ≤ 4611686018427387904 ∧ t.t.length ≤ 5000) : (clC r t).k.length ≤ 4611686018427387904 ∧ (clC r t).t.length ≤ 5000 := by
  unfold clC; split
  · exact ⟨h.1, by show (mk r t.t).length ≤ _; rw [mk_len]; exact h.2⟩
  · exact h
theorem clF_len {r : SRl} {f : Flt} (h : f.t.length ≤ 5000 ∧ f.fr.q ≤ 1000 ∧ f.fr.l.length = f.fr.q ∧ ∀ x ∈ f.fr.l, x.fi.length ≤ 5000) :
    (clF r f).t.length ≤ 5000 ∧ (clF r f).fr.q ≤ 1000 ∧ (clF r f).fr.l.length = (clF r f).fr.q ∧ ∀ x ∈ (clF r f).fr.l, x.fi.length ≤ 5000 := by
  refine ⟨?_, h.2.1, ?_, ?_⟩
  · show (if r.wh = 1 then mk r f.t else f.t).length ≤ _
    split
    · rw [mk_len]; exact h.1
    · exact h.1
  · show (if r.wh = 5 then f.fr.l.map (clM r) else f.fr.l).length = f.fr.q
    split
    · rw [List.length_map]; exact h.2.2.1
    · exact h.2.2.1
  · show ∀ x ∈ (if r.wh = 5 then f.fr.l.map (clM r) else f.fr.l), _
    split
    · intro x hx
      obtain ⟨y, hy, rfl⟩ := List.mem_map.1 hx
      show (mk r y.fi).length ≤ _
      rw [mk_len]; exact h.2.2.2 y hy
    · exact h.2.2.2
theorem map_mem {α : Type} {p : α → Prop} {f : α → α} {l : List α} (hp : ∀ x ∈ l, p x) (hf : ∀ x, p x → p (f x)) : ∀ x ∈ l.map f, p x := by
  intro x hx
  obtain ⟨y, hy, rfl⟩ := List.mem_map.1 hx
  exact hf y (hp y hy)
theorem LenE.cl {r : SRl} {e : Evt} (h : LenE e) : LenE (clE r e) := by
  refine ⟨?_, ?_, ?_, map_mem h.fa fun f => clF_len, ⟨h.fq.1, by show (e.fa.l.map _).length = _; rw [List.length_map]; exact h.fq.2⟩, ⟨h.tq.1, ?_⟩, ⟨h.cq.1, ?_⟩⟩
  · show (usR r e).length ≤ _
    unfold usR; split
    · rw [mk_len]; exact h.us
    · exact h.us
  · show ∀ t ∈ taR r e, _
    unfold taR; split
    · exact map_mem h.ta fun t => clT_len
    · exact h.ta
  · show ∀ t ∈ crR r e, _
    unfold crR; split
    · exact map_mem h.cr fun t => clC_len
    · exact h.cr
  · show (taR r e).length = _
    unfold taR; split
    · rw [List.length_map]; exact h.tq.2
    · exact h.tq.2
  · show (crR r e).length = _
    unfold crR; split
    · rw [List.length_map]; exact h.cq.2
    · exact h.cq.2
theorem cnT_le {r : SRl} {t : STag} (h : t.v.length ≤ 5000) : cnT r t ≤ 5000 := by
  unfold cnT; split
  · exact Nat.le_trans (fndR_len _ _) h
  · exact Nat.zero_le _
theorem cnC_le {r : SRl} {t : SCrumb} (h : t.t.length ≤ 5000) : cnC r t ≤ 5000 := by
  unfold cnC; split
  · exact Nat.le_trans (fndR_len _ _) h
  · exact Nat.zero_le _
theorem cnX_le {r : SRl} {f : Flt} (h : f.t.length ≤ 5000) : cnX r f ≤ 5000 := by
  unfold cnX; split
  · exact Nat.le_trans (fndR_len _ _) h
  · exact Nat.zero_le _
theorem cnM_le {r : SRl} {x : Frm} (h : x.fi.length ≤ 5000) : cnM r x ≤ 5000 := Nat.le_trans (fndR_len _ _) h
theorem cnF_le {r : SRl} {f : Flt} (h : f.t.length ≤ 5000 ∧ f.fr.q ≤ 1000 ∧ f.fr.l.length = f.fr.q ∧ ∀ x ∈ f.fr.l, x.fi.length ≤ 5000) : cnF r f ≤ 5005000 := by
  have h1 := cnX_le (r := r) h.1
  have h2 := sm_le (k := cnM r) (B := 5000) fun x hx => cnM_le (h.2.2.2 x hx)
  have h3 : f.fr.l.length * 5000 ≤ 1000 * 5000 := Nat.mul_le_mul_right _ (by omega)
  unfold cnF
  split <;> omega
theorem m0R_le {r : SRl} {e : Evt} (h : LenE e) : m0R r e ≤ 5000000 := by
  have h1 := sm_le (k := cnT r) (B := 5000) fun x hx => cnT_le (h.ta x hx).2
  have h2 := sm_le (k := cnC r) (B := 5000) fun x hx => cnC_le (h.cr x hx).2
  have h3 : e.ta.l.length * 5000 ≤ 1000 * 5000 := Nat.mul_le_mul_right _ (by have := h.tq; omega)
  have h4 : e.cr.l.length * 5000 ≤ 1000 * 5000 := Nat.mul_le_mul_right _ (by have := h.cq; omega)
  have h5 := fndR_len r e.us
  have h6 := h.us
  unfold m0R
  split
  · omega
  · split
    · omega
    · split <;> omega
theorem smF_le {r : SRl} {e : Evt} (h : LenE e) (i : Nat) : smT (cnF r) e.fa.l i ≤ 5005000000 := by
  have h1 := smT_le (k := cnF r) (l := e.fa.l) (i := i) (B := 5005000) fun x hx => cnF_le (h.fa x hx)
  have h2 : e.fa.l.length * 5005000 ≤ 1000 * 5005000 := Nat.mul_le_mul_right _ (by have := h.fq; omega)
  omega
/-! ### frames' rows -/
abbrev frRow (f : Flt) : Row := ⟨116, 6, .slice f.fr.A f.fr.q f.fr.c, f.fr.q, f.fr.l.flatMap Frm.enc⟩
def blkF (f : Flt) : Option Nat := (Value.slice f.fr.A f.fr.q f.fr.c).ownBlock
def DisF (l : List Flt) : Prop := (l.map blkF).Pairwise fun a b => ∀ g, a = some g → b ≠ some g
def rsWo (l : List Flt) (i : Nat) : List Row := (l.take i ++ l.drop (i + 1)).map frRow
theorem rsWo_sub {l : List Flt} {i : Nat} : ∀ r ∈ rsWo l i, r ∈ l.map frRow := by
  intro r hr
  obtain ⟨f, hf, rfl⟩ := List.mem_map.1 hr
  refine List.mem_map.2 ⟨f, ?_, rfl⟩
  rcases List.mem_append.1 hf with h | h
  · exact List.mem_of_mem_take h
  · exact List.mem_of_mem_drop h
theorem rsWo_dis {l : List Flt} {i : Nat} {x : Flt} (hd : DisF l) (hx : l[i]? = some x) : ∀ r ∈ rsWo l i, ∀ b, blkF x = some b → r.v.ownBlock ≠ some b := by
  have hl := (List.getElem?_eq_some_iff.1 hx).1
  have e1 : l[i] = x := (List.getElem?_eq_some_iff.1 hx).2
  have e : l = l.take i ++ x :: l.drop (i + 1) := by rw [← e1, ← List.drop_eq_getElem_cons hl, List.take_append_drop]
  unfold DisF at hd
  rw [e, List.map_append, List.map_cons, List.pairwise_append, List.pairwise_cons] at hd
  obtain ⟨_, ⟨h2, _⟩, h3⟩ := hd
  intro r hr b hb
  obtain ⟨f, hf, rfl⟩ := List.mem_map.1 hr
  rcases List.mem_append.1 hf with h | h
  · intro he
    exact h3 (blkF f) (List.mem_map.2 ⟨f, h, rfl⟩) (blkF x) (List.mem_cons_self ..) b he hb
  · exact h2 (blkF f) (List.mem_map.2 ⟨f, h, rfl⟩) b hb
theorem clF_blk (r : SRl) (f : Flt) : blkF (clF r f) = blkF f := rfl
theorem DisF.mp {r : SRl} {l : List Flt} {i : Nat} (h : DisF l) : DisF (mpL (clF r) l i) := by
  unfold DisF
  rw [mpL_map (clF_blk r)]; exact h
theorem DisF.map {r : SRl} {l : List Flt} (h : DisF l) : DisF (l.map (clF r)) := by
  have := DisF.mp (r := r) (i := l.length) h
  rwa [mpL_end (Nat.le_refl _)] at this
/-- the row of one fault put back -/
theorem rows_back {r : SRl} {l : List Flt} {i : Nat} {x : Flt} (hx : l[i]? = some x) : ∀ y ∈ (mpL (clF r) l (i + 1)).map frRow, y ∈ rsWo (mpL (clF r) l i) i ++ [frRow (clF r x)] := by
  have hl := (List.getElem?_eq_some_iff.1 hx).1
  intro y hy
  obtain ⟨f, hf, rfl⟩ := List.mem_map.1 hy
  rw [← mpL_set hx] at hf
  have hlen : i < (mpL (clF r) l i).length := by rw [mpL_len]; exact hl
  rw [List.set_eq_take_append_cons_drop, if_pos hlen] at hf
  rcases List.mem_append.1 hf with h | h
  · exact List.mem_append_left _ (List.mem_map.2 ⟨f, List.mem_append_left _ h, rfl⟩)
  · rcases List.mem_cons.1 h with rfl | h
    · exact List.mem_append_right _ (List.mem_singleton.2 rfl)
    · exact List.mem_append_left _ (List.mem_map.2 ⟨f, List.mem_append_right _ h, rfl⟩)
theorem flt_head {r : SRl} {l : List Flt} {i : Nat} {x : Flt} (hx : l[i]? = some x) (h1 : ¬ r.wh = 1) : (mpL (clF r) l (i + 1)).flatMap Flt.enc = (mpL (clF r) l i).flatMap Flt.enc := by
  rw [← mpL_set hx, ← flat_set (enc := Flt.enc) (size := 3) (off := 1) (u := str x.t) (fun _ => rfl) (mpL_at hx) (by decide) (show Flt.enc (clF r x) = (Flt.enc x).set 1 (str x.t) by simp [clF, Flt.enc, if_neg h1])]
  have h := flat_at (enc := Flt.enc) (size := 3) (fun _ => rfl) (mpL_at (f := clF r) hx) 1 (str x.t) rfl
  obtain ⟨hl, e⟩ := List.getElem?_eq_some_iff.1 h
  rw [← e, List.set_getElem_self]
end Go.Proofs.YtfmbgaaonfgenaaGreatDoor
end
