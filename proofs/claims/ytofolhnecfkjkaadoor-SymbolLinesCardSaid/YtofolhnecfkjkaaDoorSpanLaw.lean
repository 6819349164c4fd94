/- The keep law on lines, walked. Condition: the table lies in memory. -/
import Derived.Test.YtofolhnecfkjkaaDoorSpans
import Derived.Test.YtofolhnecfkjkaaDoorAwake
namespace Go.Proofs.YtofolhnecfkjkaaDoor
set_option linter.unusedSimpArgs false
set_option linter.unusedVariables false
set_option maxRecDepth 20000
open Go.RowKit Go.Eng
theorem atAll_zero {t : Tab} {x : Int} (h : atNo t x = 0) : atAll t x = atOut t x ∧ ¬ findI (SFunc.has x) t.fu.l 0 < 0 := by
  have h1 := (fst_zero h).1
  have h2 := (fst_zero h).2
  cases ho : outB x 0 (t.size - 1) with
  | true => rw [ho, if_pos rfl] at h2; cases h2
  | false =>
    rw [ho, if_neg (by simp)] at h2
    refine ⟨if_pos ⟨h1, ho⟩, fun hn => ?_⟩
    rw [if_pos hn] at h2; cases h2
theorem addSpan_len (out : List SSpan) (fr to : Int) : (addSpan out fr to).length ≤ out.length + 1 := by
  unfold addSpan
  split
  · split <;> simp
  · simp
theorem spans_len {size n ln : Int} : ∀ (l : List SRow) (out : List SSpan), (spansOf size n ln l out).length ≤ out.length + l.length
  | [], out => by simp [spansOf]
  | r :: rest, out => by
    unfold spansOf
    split
    · have := spans_len (size := size) (n := n) (ln := ln) rest out; simp; omega
    · have := spans_len (size := size) (n := n) (ln := ln) rest (addSpan out r.pos (rowEnd size rest))
      have := addSpan_len out r.pos (rowEnd size rest)
      simp; omega
theorem lines_len (t : Tab) (file : List UInt8) (ln : Int) : (linesOut t file ln).length ≤ t.ro.l.length := by
  unfold linesOut
  split
  · have := spans_len (size := t.size) (n := findI (eqS file) t.fi.l 0) (ln := ln) t.ro.l []; simpa using this
  · simp
theorem SymbolLines_any (t : Tab) (file : List UInt8) (ln : Int) (w : World) (hok : t.Ok w) :
    Calls Tryd.prog 4 #[.agg #[str t.id, .int .i64 t.size, .slice t.fi.A t.fi.q t.fi.c, .slice t.fu.A t.fu.q t.fu.c, .slice t.ro.A t.ro.q t.ro.c, .slice t.ca.A t.ca.q t.ca.c], str file, .int .i64 ln] w fun e w' => e = .returned (.bool true) ∧ Below w.heap.size w w' := by
  have hll := lines_len t file ln
  have hq := hok.small
  have hrl := hok.ro.t.len
  refine enter_args (args := [.agg #[str t.id, .int .i64 t.size, .slice t.fi.A t.fi.q t.fi.c, .slice t.fu.A t.fu.q t.fu.c, .slice t.ro.A t.ro.q t.ro.c, .slice t.ca.A t.ca.q t.ca.c], str file, .int .i64 ln]) (F := _) Tryd.func4 rfl Tryd.ntmps4 rfl rfl ?_
  intro Rb hRb hRn
  refine T_seq ?_
  refine T_region ?_
  refine S_box 3 3 rfl rfl rfl rfl rfl ?_
  intro b3
  refine S_ 6 rfl rfl rfl _ (y_assign rfl rfl) ?_
  refine S_go (fun _ _ h => h) ?_
  refine T_seq ?_
  refine T_seq ?_
  refine T_region ?_
  refine S_ 14 rfl rfl rfl _ (y_call rfl rfl rfl cf17 (fun _ w _ => awake_any w)) ?_
  refine S_ 15 rfl rfl rfl _ (y_not rfl rfl) ?_
  refine S_go (fun _ _ h => h) ?_
  refine T_cond rfl (fun h15 => ?_) (fun h15 => ?_)
  · try simp only [decide_eq_true_eq, decide_eq_false_iff_not, Bool.or_eq_true, Bool.or_eq_false_iff, Bool.and_eq_true, Bool.and_eq_false_iff, Bool.not_eq_true', Bool.not_eq_false', Bool.not_eq_true, Bool.not_eq_false, Bool.not_true, Bool.not_false, Int.not_lt, Int.not_le, not_or, not_and, Classical.not_not] at h15
    cases h15
  · try simp only [decide_eq_true_eq, decide_eq_false_iff_not, Bool.or_eq_true, Bool.or_eq_false_iff, Bool.and_eq_true, Bool.and_eq_false_iff, Bool.not_eq_true', Bool.not_eq_false', Bool.not_eq_true, Bool.not_eq_false, Bool.not_true, Bool.not_false, Int.not_lt, Int.not_le, not_or, not_and, Classical.not_not] at h15
    refine T_skip_go (fun _ _ h => h) ?_
    refine T_seq ?_
    refine T_region ?_
    refine S_ 17 rfl rfl rfl _ (y_loadA 3 rfl rfl rfl Tryd.underlying27 rfl sz27) ?_
    refine S_ 18 rfl rfl rfl _ (y_move rfl rfl) ?_
    refine S_ 19 rfl rfl rfl _ (y_move rfl rfl) ?_
    refine S_callOwn 20 20 rfl rfl rfl rfl rfl rfl rfl cf18 (fun A c => .tuple #[.slice A (linesOut t file ln).length c, .int .i64 (linesNo t file ln)]) 41 2 ((linesOut t file ln).length) ((linesOut t file ln).flatMap SSpan.enc) (fun w hM => Lines_any t file ln w (hok.below hM.below)) ?_
    intro A20 c20
    refine S_ 16 rfl rfl rfl _ (y_move rfl rfl) ?_
    refine S_ 21 rfl rfl rfl _ (y_extract rfl rfl rfl) ?_
    refine S_ 22 rfl rfl rfl _ (y_extract rfl rfl rfl) ?_
    refine S_ 7 rfl rfl rfl _ (y_assign rfl rfl) ?_
    refine S_ 8 rfl rfl rfl _ (y_assign rfl rfl) ?_
    refine S_go (fun _ _ h => h) ?_
    refine T_seq ?_
    refine T_seq ?_
    refine T_region ?_
    refine S_ 23 rfl rfl rfl _ (y_move rfl rfl) ?_
    refine S_ 24 rfl rfl rfl _ (y_bin rfl rfl rfl (fun _ => b_neq)) ?_
    refine S_go (fun _ _ h => h) ?_
    refine T_cond rfl (fun h24 => ?_) (fun h24 => ?_)
    · try simp only [decide_eq_true_eq, decide_eq_false_iff_not, Bool.or_eq_true, Bool.or_eq_false_iff, Bool.and_eq_true, Bool.and_eq_false_iff, Bool.not_eq_true', Bool.not_eq_false', Bool.not_eq_true, Bool.not_eq_false, Bool.not_true, Bool.not_false, Int.not_lt, Int.not_le, not_or, not_and, Classical.not_not] at h24
      refine T_seq ?_
      refine T_region ?_
      refine S_ 6 rfl rfl rfl _ (y_assign rfl rfl) ?_
      refine S_go (fun _ _ h => h) ?_
      refine T_ret (fun a w hF hM => hRb a w (post1 rfl rfl (fun w hM => ?_) a w hF hM))
      exact ⟨rfl, hM.below⟩
    · try simp only [decide_eq_true_eq, decide_eq_false_iff_not, Bool.or_eq_true, Bool.or_eq_false_iff, Bool.and_eq_true, Bool.and_eq_false_iff, Bool.not_eq_true', Bool.not_eq_false', Bool.not_eq_true, Bool.not_eq_false, Bool.not_true, Bool.not_false, Int.not_lt, Int.not_le, not_or, not_and, Classical.not_not] at h24
      have hch := lines_chain h24
      refine T_skip_go (fun _ _ h => h) ?_
      refine T_seq ?_
      refine T_region ?_
      refine S_ 9 rfl rfl rfl _ (y_assign rfl rfl) ?_
      refine S_go (fun _ _ h => h) ?_
      refine T_seq ?_
      refine T_seq ?_
      refine T_region ?_
      refine S_ 25 rfl rfl rfl _ (y_move rfl rfl) ?_
      refine S_ 26 rfl rfl rfl _ (y_len_slice rfl rfl Tryd.underlying37) ?_
      refine S_ 27 rfl rfl rfl _ (y_move rfl rfl) ?_
      refine S_go (fun _ _ h => h) ?_
      refine T_block ?_
      refine T_loopK2 (kf := [(6, 6), (9, 9), (11, 13), (27, 69)]) (kl := [(6, 6), (9, 9), (11, 13), (27, 69)]) (fun (i : Nat) (en : Int) => [(27, true, .int .i64 (i : Int)), (9, true, .int .i64 en)]) (fun (i : Nat) (en : Int) => []) (fun (i : Nat) (en : Int) => i ≤ (linesOut t file ln).length ∧ ∀ s, (linesOut t file ln)[i]? = some s → en < s.fr) (fun (i : Nat) (en : Int) => (linesOut t file ln).length - i) 0 (-1) (by repeat (first | exact kf_nil | (apply kf_in; focus rfl) | (apply kf_out; focus rfl))) (by repeat (first | exact kl_nil | exact kl_rest (by assumption) rfl | (apply kl_in; focus rfl) | (apply kl_out; focus rfl))) ?_ ?_ ?_ ?_
      · exact ⟨by omega, fun s hs => by have := (hch.each 0 s hs).2.1; omega⟩
      · exact ⟨rfl, rfl, trivial⟩
      · exact trivial
      rintro i en ⟨hp1, hp2⟩
      refine T_seq ?_
      refine T_region ?_
      refine S_ 28 rfl rfl rfl _ (y_bin rfl rfl rfl (fun _ => b_lss)) ?_
      refine S_go (fun _ _ h => h) ?_
      refine T_seq ?_
      refine T_cond rfl (fun h28 => ?_) (fun h28 => ?_)
      · try simp only [decide_eq_true_eq, decide_eq_false_iff_not, Bool.or_eq_true, Bool.or_eq_false_iff, Bool.and_eq_true, Bool.and_eq_false_iff, Bool.not_eq_true', Bool.not_eq_false', Bool.not_eq_true, Bool.not_eq_false, Bool.not_true, Bool.not_false, Int.not_lt, Int.not_le, not_or, not_and, Classical.not_not] at h28
        obtain ⟨s, hs, _⟩ := at_lt (l := linesOut t file ln) (i := i) (by omega)
        have hs1 := hch.each i s hs
        have hs2 := hp2 s hs
        obtain ⟨p, hp⟩ : ∃ p : SPlace, atNo t s.fr = 0 → (atAll t s.fr)[0]? = some p ∧ p.fi = file ∧ p.ln = ln := by
          by_cases h0 : atNo t s.fr = 0
          · obtain ⟨e1, e2⟩ := atAll_zero h0
            obtain ⟨p, hp⟩ := hs1.2.2 e2
            exact ⟨p, fun _ => by rw [e1]; exact hp⟩
          · exact ⟨⟨[], [], 0⟩, fun h => absurd h h0⟩
        have hlt : atNo t s.fr = 0 → 0 < (atAll t s.fr).length := fun h => (List.getElem?_eq_some_iff.1 (hp h).1).1
        refine T_skip_go (fun _ _ h => h) ?_
        refine T_seq ?_
        refine T_block ?_
        refine T_seq ?_
        refine T_region ?_
        refine S_ 29 rfl rfl rfl _ (y_indexOwn 20 rfl rfl rfl rfl Tryd.underlying37 sz41 (fun _ => by omega)) ?_
        refine S_ 30 rfl rfl rfl _ (y_loadO 20 rfl rfl rfl rfl (fun _ => rfl) (fun _ => hs) Tryd.underlying41 rfl sz41) ?_
        refine S_alloc 11 11 rfl rfl rfl rfl z41 ?_
        intro b11
        refine S_store 11 rfl rfl rfl rfl rfl rfl sz41 rfl rfl ?_
        refine S_go (fun _ _ h => h) ?_
        refine T_seq ?_
        refine T_seq ?_
        refine T_region ?_
        refine S_ 31 rfl rfl rfl _ (y_fieldAddr rfl rfl fa41_0) ?_
        refine S_ 32 rfl rfl rfl _ (y_load 11 rfl rfl rfl rfl Tryd.underlying3 rfl) ?_
        refine S_ 33 rfl rfl rfl _ (y_move rfl rfl) ?_
        refine S_ 34 rfl rfl rfl _ (y_bin rfl rfl rfl (fun _ => b_leq)) ?_
        refine S_ 35 rfl rfl rfl _ (y_move rfl rfl) ?_
        refine Sg_ 36 rfl rfl rfl rfl rfl rfl _ (y_fieldAddr rfl rfl fa41_1) ?_
        refine Sg_ 37 rfl rfl rfl rfl rfl rfl _ (y_load 11 rfl rfl rfl rfl Tryd.underlying3 rfl) ?_
        refine Sg_ 38 rfl rfl rfl rfl rfl rfl _ (y_fieldAddr rfl rfl fa41_0) ?_
        refine Sg_ 39 rfl rfl rfl rfl rfl rfl _ (y_load 11 rfl rfl rfl rfl Tryd.underlying3 rfl) ?_
        refine Sg_ 40 rfl rfl rfl rfl rfl rfl _ (y_bin rfl rfl rfl (fun _ => b_leq)) ?_
        refine S_ 41 rfl rfl rfl _ (y_or rfl rfl rfl) ?_
        refine S_go (fun _ _ h => h) ?_
        refine T_cond rfl (fun h41 => ?_) (fun h41 => ?_)
        · try simp only [decide_eq_true_eq, decide_eq_false_iff_not, Bool.or_eq_true, Bool.or_eq_false_iff, Bool.and_eq_true, Bool.and_eq_false_iff, Bool.not_eq_true', Bool.not_eq_false', Bool.not_eq_true, Bool.not_eq_false, Bool.not_true, Bool.not_false, Int.not_lt, Int.not_le, not_or, not_and, Classical.not_not] at h41
          omega
        · try simp only [decide_eq_true_eq, decide_eq_false_iff_not, Bool.or_eq_true, Bool.or_eq_false_iff, Bool.and_eq_true, Bool.and_eq_false_iff, Bool.not_eq_true', Bool.not_eq_false', Bool.not_eq_true, Bool.not_eq_false, Bool.not_true, Bool.not_false, Int.not_lt, Int.not_le, not_or, not_and, Classical.not_not] at h41
          refine T_skip_go (fun _ _ h => h) ?_
          refine T_seq ?_
          refine T_region ?_
          refine S_ 42 rfl rfl rfl _ (y_fieldAddr rfl rfl fa41_1) ?_
          refine S_ 43 rfl rfl rfl _ (y_load 11 rfl rfl rfl rfl Tryd.underlying3 rfl) ?_
          refine S_ 9 rfl rfl rfl _ (y_assign rfl rfl) ?_
          refine S_go (fun _ _ h => h) ?_
          refine T_seq ?_
          refine T_region ?_
          refine S_ 45 rfl rfl rfl _ (y_loadA 3 rfl rfl rfl Tryd.underlying27 rfl sz27) ?_
          refine S_ 46 rfl rfl rfl _ (y_fieldAddr rfl rfl fa41_0) ?_
          refine S_ 47 rfl rfl rfl _ (y_load 11 rfl rfl rfl rfl Tryd.underlying3 rfl) ?_
          refine S_callOwn 48 48 rfl rfl rfl rfl rfl rfl rfl cf19 (fun A c => .tuple #[.slice A (atAll t s.fr).length c, .int .i64 (atNo t s.fr)]) 46 3 ((atAll t s.fr).length) ((atAll t s.fr).flatMap SPlace.enc) (fun w hM => At_any t s.fr w (hok.below hM.below)) ?_
          intro A48 c48
          refine S_ 44 rfl rfl rfl _ (y_move rfl rfl) ?_
          refine S_ 49 rfl rfl rfl _ (y_extract rfl rfl rfl) ?_
          refine S_ 50 rfl rfl rfl _ (y_extract rfl rfl rfl) ?_
          refine S_ 12 rfl rfl rfl _ (y_assign rfl rfl) ?_
          refine S_ 13 rfl rfl rfl _ (y_assign rfl rfl) ?_
          refine S_go (fun _ _ h => h) ?_
          refine T_seq ?_
          refine T_region ?_
          refine S_ 51 rfl rfl rfl _ (y_move rfl rfl) ?_
          refine S_ 52 rfl rfl rfl _ (y_bin rfl rfl rfl (fun _ => b_eql)) ?_
          refine S_ 53 rfl rfl rfl _ (y_move rfl rfl) ?_
          refine Sg_ 54 rfl rfl rfl rfl rfl rfl _ (y_move rfl rfl) ?_
          refine Sg_ 55 rfl rfl rfl rfl rfl rfl _ (y_indexOwn 48 rfl rfl rfl rfl Tryd.underlying42 sz46 (fun hg => hlt (by simp only [Bool.true_and, Bool.and_eq_true, beq_iff_eq, decide_eq_true_eq, decide_eq_false_iff_not, Int.not_lt, Int.not_le] at hg; omega))) ?_
          refine Sg_ 56 rfl rfl rfl rfl rfl rfl _ (y_fieldOwn 48 rfl rfl rfl (fun hg => hlt (by simp only [Bool.true_and, Bool.and_eq_true, beq_iff_eq, decide_eq_true_eq, decide_eq_false_iff_not, Int.not_lt, Int.not_le] at hg; omega)) fa46_1) ?_
          refine Sg_ 57 rfl rfl rfl rfl rfl rfl _ (y_load_cellOwn 48 rfl rfl rfl (fun hg => hlt (by simp only [Bool.true_and, Bool.and_eq_true, beq_iff_eq, decide_eq_true_eq, decide_eq_false_iff_not, Int.not_lt, Int.not_le] at hg; omega)) (v := str p.fi) (fun hg => flat_at (enc := SPlace.enc) (size := 3) (fun _ => rfl) (hp (by simp only [Bool.true_and, Bool.and_eq_true, beq_iff_eq, decide_eq_true_eq, decide_eq_false_iff_not, Int.not_lt, Int.not_le] at hg; omega)).1 1 (str p.fi) rfl) Tryd.underlying9 rfl) ?_
          refine Sg_ 58 rfl rfl rfl rfl rfl rfl _ (y_move rfl rfl) ?_
          refine Sg_ 59 rfl rfl rfl rfl rfl rfl _ (y_bin rfl rfl rfl (fun _ => b_neqs)) ?_
          refine Sg_ 60 rfl rfl rfl rfl rfl rfl _ (y_move rfl rfl) ?_
          refine Sg_ 61 rfl rfl rfl rfl rfl rfl _ (y_move rfl rfl) ?_
          refine Sg_ 62 rfl rfl rfl rfl rfl rfl _ (y_indexOwn 48 rfl rfl rfl rfl Tryd.underlying42 sz46 (fun hg => hlt (by simp only [Bool.true_and, Bool.and_eq_true, beq_iff_eq, decide_eq_true_eq, decide_eq_false_iff_not, Int.not_lt, Int.not_le] at hg; omega))) ?_
          refine Sg_ 63 rfl rfl rfl rfl rfl rfl _ (y_fieldOwn 48 rfl rfl rfl (fun hg => hlt (by simp only [Bool.true_and, Bool.and_eq_true, beq_iff_eq, decide_eq_true_eq, decide_eq_false_iff_not, Int.not_lt, Int.not_le] at hg; omega)) fa46_2) ?_
          refine Sg_ 64 rfl rfl rfl rfl rfl rfl _ (y_load_cellOwn 48 rfl rfl rfl (fun hg => hlt (by simp only [Bool.true_and, Bool.and_eq_true, beq_iff_eq, decide_eq_true_eq, decide_eq_false_iff_not, Int.not_lt, Int.not_le] at hg; omega)) (v := .int .i64 p.ln) (fun hg => flat_at (enc := SPlace.enc) (size := 3) (fun _ => rfl) (hp (by simp only [Bool.true_and, Bool.and_eq_true, beq_iff_eq, decide_eq_true_eq, decide_eq_false_iff_not, Int.not_lt, Int.not_le] at hg; omega)).1 2 (.int .i64 p.ln) rfl) Tryd.underlying3 rfl) ?_
          refine Sg_ 65 rfl rfl rfl rfl rfl rfl _ (y_move rfl rfl) ?_
          refine Sg_ 66 rfl rfl rfl rfl rfl rfl _ (y_bin rfl rfl rfl (fun _ => b_neq)) ?_
          refine Sg_ 67 rfl rfl rfl rfl rfl rfl _ (y_or rfl rfl rfl) ?_
          refine S_ 68 rfl rfl rfl _ (y_and rfl rfl rfl) ?_
          refine S_go (fun _ _ h => h) ?_
          refine T_cond rfl (fun h68 => ?_) (fun h68 => ?_)
          · skip
            exfalso
            simp only [Bool.and_eq_true, Bool.or_eq_true, Bool.not_eq_true', decide_eq_true_eq, decide_eq_false_iff_not] at h68
            have h9 := (hp h68.1).2
            rcases h68.2 with h | h
            · exact h h9.1
            · exact h h9.2
          · skip
            refine T_skip_go (fun _ _ h => h) ?_
            refine T_region ?_
            refine S_ 69 rfl rfl rfl _ (y_bin rfl rfl rfl (fun hg => b_add (by omega))) ?_
            refine S_ 27 rfl rfl rfl _ (y_move rfl rfl) ?_
            refine S_nil (nextK2 (kf := [(6, 6), (9, 9), (11, 13), (27, 69)]) (kl := [(6, 6), (9, 9), (11, 13), (27, 69)]) (i + 1) s.to (by repeat (first | exact kf_nil | (apply kf_in; focus rfl) | (apply kf_out; focus rfl))) (by repeat (first | exact kl_nil | exact kl_rest (by assumption) rfl | (apply kl_in; focus rfl) | (apply kl_out; focus rfl))) ?_ ?_ ?_ ?_)
            · omega
            · exact ⟨by omega, fun s' hs' => hch.next i s s' hs hs'⟩
            · exact ⟨rfl, rfl, trivial⟩
            · exact trivial
      · try simp only [decide_eq_true_eq, decide_eq_false_iff_not, Bool.or_eq_true, Bool.or_eq_false_iff, Bool.and_eq_true, Bool.and_eq_false_iff, Bool.not_eq_true', Bool.not_eq_false', Bool.not_eq_true, Bool.not_eq_false, Bool.not_true, Bool.not_false, Int.not_lt, Int.not_le, not_or, not_and, Classical.not_not] at h28
        refine T_exit_go (fun _ _ h => h) ?_
        refine T_seq ?_
        refine T_region ?_
        refine S_ 6 rfl rfl rfl _ (y_assign rfl rfl) ?_
        refine S_go (fun _ _ h => h) ?_
        refine T_ret (fun a w hF hM => hRb a w (post1 rfl rfl (fun w hM => ?_) a w hF hM))
        exact ⟨rfl, hM.below⟩
end Go.Proofs.YtofolhnecfkjkaaDoor
