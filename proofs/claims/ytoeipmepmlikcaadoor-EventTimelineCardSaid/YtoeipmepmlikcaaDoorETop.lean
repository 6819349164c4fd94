/- stack.Culprit, and the law TopLimited walked. Conditions: those of each theorem. -/
import Derived.Test.YtoeipmepmlikcaaDoorEFitted
namespace Go.Proofs.YtoeipmepmlikcaaDoor
set_option linter.unusedSimpArgs false
set_option linter.unusedVariables false
set_option maxRecDepth 20000
open Go.RowKit Go.Eng
def callB (x : Frm) : List UInt8 := if x.m = [] then x.f else x.m ++ [33] ++ x.f
theorem call_any (x : Frm) (h1 : x.m.length ≤ 200) (h2 : x.f.length ≤ 200) (w : World) :
    Calls Tryd.prog 111 #[x.val] w fun e w' => e = .returned (str (callB x)) ∧ Below w.heap.size w w' := by
  obtain ⟨m, f, fi, ln, ad, own⟩ := x
  simp only at h1 h2
  refine enter_args (args := [.agg #[str m, str f, str fi, .int .i64 ln, .int .i64 ad, .bool own]]) (F := _) Tryd.func111 rfl Tryd.ntmps111 rfl rfl ?_
  intro Rb hRb hRn
  refine T_seq ?_
  refine T_region ?_
  refine S_box 1 1 rfl rfl rfl rfl rfl ?_
  intro b1
  refine S_ 2 rfl rfl rfl _ (y_assign rfl rfl) ?_
  refine S_go (fun _ _ h => h) ?_
  refine T_seq ?_
  refine T_seq ?_
  refine T_region ?_
  refine S_ 3 rfl rfl rfl _ (y_fieldAddr rfl rfl fa148_0) ?_
  refine S_ 4 rfl rfl rfl _ (y_load 1 rfl rfl rfl rfl Tryd.underlying9 rfl) ?_
  refine S_ 5 rfl rfl rfl _ (y_bin rfl rfl rfl (fun _ => b_neqs)) ?_
  refine S_go (fun _ _ h => h) ?_
  refine T_cond rfl (fun h5 => ?_) (fun h5 => ?_)
  · try simp only [decide_eq_true_eq, decide_eq_false_iff_not, Bool.or_eq_true, Bool.or_eq_false_iff, Bool.and_eq_true, Bool.and_eq_false_iff, Bool.not_eq_true', Bool.not_eq_false', Bool.not_eq_true, Bool.not_eq_false, Bool.not_true, Bool.not_false, Int.not_lt, Int.not_le, not_or, not_and, Classical.not_not] at h5
    refine T_seq ?_
    refine T_region ?_
    refine S_ 6 rfl rfl rfl _ (y_fieldAddr rfl rfl fa148_0) ?_
    refine S_ 7 rfl rfl rfl _ (y_load 1 rfl rfl rfl rfl Tryd.underlying9 rfl) ?_
    refine S_ 8 rfl rfl rfl _ (y_bin rfl rfl rfl (fun hg => b_adds (by first | omega | (simp only [List.length_append, List.length_cons, List.length_nil]; omega)))) ?_
    refine S_ 9 rfl rfl rfl _ (y_fieldAddr rfl rfl fa148_1) ?_
    refine S_ 10 rfl rfl rfl _ (y_load 1 rfl rfl rfl rfl Tryd.underlying9 rfl) ?_
    refine S_ 11 rfl rfl rfl _ (y_bin rfl rfl rfl (fun hg => b_adds (by first | omega | (simp only [List.length_append, List.length_cons, List.length_nil]; omega)))) ?_
    refine S_ 2 rfl rfl rfl _ (y_assign rfl rfl) ?_
    refine S_go (fun _ _ h => h) ?_
    refine T_ret (fun a w hF hM => hRb a w (post1 rfl rfl (fun w hM => ?_) a w hF hM))
    exact ⟨by rw [callB, if_neg h5], hM.below⟩
  · try simp only [decide_eq_true_eq, decide_eq_false_iff_not, Bool.or_eq_true, Bool.or_eq_false_iff, Bool.and_eq_true, Bool.and_eq_false_iff, Bool.not_eq_true', Bool.not_eq_false', Bool.not_eq_true, Bool.not_eq_false, Bool.not_true, Bool.not_false, Int.not_lt, Int.not_le, not_or, not_and, Classical.not_not] at h5
    refine T_skip_go (fun _ _ h => h) ?_
    refine T_seq ?_
    refine T_region ?_
    refine S_ 12 rfl rfl rfl _ (y_fieldAddr rfl rfl fa148_1) ?_
    refine S_ 13 rfl rfl rfl _ (y_load 1 rfl rfl rfl rfl Tryd.underlying9 rfl) ?_
    refine S_ 2 rfl rfl rfl _ (y_assign rfl rfl) ?_
    refine S_go (fun _ _ h => h) ?_
    refine T_ret (fun a w hF hM => hRb a w (post1 rfl rfl (fun w hM => ?_) a w hF hM))
    exact ⟨by rw [callB, if_pos (by simpa using h5)], hM.below⟩
theorem frms_small : ∀ l : List Frm, frmsNo l = 0 → ∀ x ∈ l, frmNo x = 0
  | [], _ => fun x h => by cases h
  | a :: r, h => fun x hx => by
    rw [frmsNo] at h
    by_cases ha : frmNo a = 0
    · rw [if_neg (by simpa using ha)] at h
      rcases List.mem_cons.1 hx with rfl | h1
      · exact ha
      · exact frms_small r h x h1
    · rw [if_pos ha] at h; exact absurd h ha
theorem frm_len {x : Frm} (h : frmNo x = 0) : x.m.length ≤ 200 ∧ x.f.length ≤ 200 := by
  have h1 : wordsNo x.m x.f x.fi = 0 := by
    unfold frmNo at h
    split at h
    · exact absurd h ‹_›
    · exact Decidable.not_not.1 ‹_›
  unfold wordsNo at h1
  split at h1
  · cases h1
  · rename_i h2
    simp only [Bool.or_eq_true, decide_eq_true_eq, not_or] at h2
    omega
theorem flt_small {y : Flt} (h : fltNo y = 0) : ∀ x ∈ y.fr.l, x.m.length ≤ 200 ∧ x.f.length ≤ 200 := fun x hx => by
  have h1 := (flt_parts h).1
  unfold framesNo at h1
  split at h1
  · cases h1
  · exact frm_len (frms_small _ h1 x hx)
def allFr (l : List Flt) : List Frm := l.flatMap (·.fr.l)
def culF (l : List Frm) : List UInt8 := match l.find? (·.own) with
  | some x => callB x
  | none => match l.head? with
    | some x => callB x
    | none => []
def culB (l : Sl Flt) : List UInt8 := if faultsNo l ≠ 0 then [] else culF (allFr l.l)
theorem culF_own {l : List Frm} {x : Frm} (h : l.find? (·.own) = some x) : culF l = callB x := by rw [culF, h]
theorem culF_hd {l : List Frm} {x : Frm} (h : l.find? (·.own) = none) (h2 : l.head? = some x) : culF l = callB x := by rw [culF, h]; simp only; rw [h2]
theorem culF_no {l : List Frm} (h : l.find? (·.own) = none) (h2 : l.head? = none) : culF l = [] := by rw [culF, h]; simp only; rw [h2]
theorem allFr_cons (x : Flt) (r : List Flt) : allFr (x :: r) = x.fr.l ++ allFr r := rfl
theorem Culprit_any (l : Sl Flt) (w : World) (hl : FltsOk w l) :
    Calls Tryd.prog 43 #[.slice l.A l.q l.c] w fun e w' => e = .returned (.tuple #[str (culB l), .int .i64 (faultsNo l)]) ∧ Below w.heap.size w w' := by
  have ht := hl.ok.t
  have hq := hl.q
  refine enter_args (args := [.slice l.A l.q l.c]) (F := _) Tryd.func43 rfl Tryd.ntmps43 rfl rfl ?_
  intro Rb hRb hRn
  refine T_seq ?_
  refine T_region ?_
  refine S_ 2 rfl rfl rfl _ (y_assign rfl rfl) ?_
  refine S_ 3 rfl rfl rfl _ (y_assign rfl rfl) ?_
  refine S_go (fun _ _ h => h) ?_
  refine T_seq ?_
  refine T_seq ?_
  refine T_region ?_
  refine S_ 11 rfl rfl rfl _ (y_move rfl rfl) ?_
  refine S_ 12 rfl rfl rfl _ (y_call rfl rfl rfl cf88 (fun _ w hM => sCheck_any l w (hl.below hM.below))) ?_
  refine S_ 4 rfl rfl rfl _ (y_assign rfl rfl) ?_
  refine S_go (fun _ _ h => h) ?_
  refine T_seq ?_
  refine T_region ?_
  refine S_ 13 rfl rfl rfl _ (y_move rfl rfl) ?_
  refine S_ 14 rfl rfl rfl _ (y_bin rfl rfl rfl (fun _ => b_neq)) ?_
  refine S_go (fun _ _ h => h) ?_
  refine T_cond rfl (fun h14 => ?_) (fun h14 => ?_)
  · try simp only [decide_eq_true_eq, decide_eq_false_iff_not, Bool.or_eq_true, Bool.or_eq_false_iff, Bool.and_eq_true, Bool.and_eq_false_iff, Bool.not_eq_true', Bool.not_eq_false', Bool.not_eq_true, Bool.not_eq_false, Bool.not_true, Bool.not_false, Int.not_lt, Int.not_le, not_or, not_and, Classical.not_not] at h14
    refine T_seq ?_
    refine T_region ?_
    refine S_ 15 rfl rfl rfl _ (y_move rfl rfl) ?_
    refine S_ 2 rfl rfl rfl _ (y_assign rfl rfl) ?_
    refine S_ 3 rfl rfl rfl _ (y_assign rfl rfl) ?_
    refine S_go (fun _ _ h => h) ?_
    refine T_ret (fun a w hF hM => hRb a w (post2 rfl rfl rfl (fun w hM => ?_) a w hF hM))
    exact ⟨by rw [culB, if_pos h14], hM.below⟩
  · try simp only [decide_eq_true_eq, decide_eq_false_iff_not, Bool.or_eq_true, Bool.or_eq_false_iff, Bool.and_eq_true, Bool.and_eq_false_iff, Bool.not_eq_true', Bool.not_eq_false', Bool.not_eq_true, Bool.not_eq_false, Bool.not_true, Bool.not_false, Int.not_lt, Int.not_le, not_or, not_and, Classical.not_not] at h14
    have h0 : faultsNo l = 0 := h14
    have hsm := (faults_parts h0).2
    refine T_skip_go (fun _ _ h => h) ?_
    refine T_seq ?_
    refine T_seq ?_
    refine T_region ?_
    refine S_ 16 rfl rfl rfl _ (y_move rfl rfl) ?_
    refine S_ 17 rfl rfl rfl _ (y_len_slice rfl rfl Tryd.underlying48) ?_
    refine S_ 18 rfl rfl rfl _ (y_move rfl rfl) ?_
    refine S_go (fun _ _ h => h) ?_
    refine T_block ?_
    refine T_loopK1 (kf := [(2, 3), (6, 6), (8, 8), (18, 34)]) (kl := [(2, 3), (6, 6), (8, 8), (18, 34)]) (fun (i : Nat) => [(18, true, .int .i64 (i : Int))]) (fun (i : Nat) => []) (fun (i : Nat) => i ≤ l.q ∧ (allFr l.l).find? (·.own) = (allFr (l.l.drop i)).find? (·.own)) (fun (i : Nat) => l.q - i) 0 (by repeat (first | exact kf_nil | (apply kf_in; focus rfl) | (apply kf_out; focus rfl))) (by repeat (first | exact kl_nil | exact kl_rest (by assumption) rfl | (apply kl_in; focus rfl) | (apply kl_out; focus rfl))) ?_ ?_ ?_ ?_
    · exact ⟨by omega, rfl⟩
    · exact ⟨rfl, trivial⟩
    · exact trivial
    rintro i ⟨hp1, hp2⟩
    refine T_seq ?_
    refine T_region ?_
    refine S_ 19 rfl rfl rfl _ (y_bin rfl rfl rfl (fun _ => b_lss)) ?_
    refine S_go (fun _ _ h => h) ?_
    refine T_seq ?_
    refine T_cond rfl (fun h19 => ?_) (fun h19 => ?_)
    · try simp only [decide_eq_true_eq, decide_eq_false_iff_not, Bool.or_eq_true, Bool.or_eq_false_iff, Bool.and_eq_true, Bool.and_eq_false_iff, Bool.not_eq_true', Bool.not_eq_false', Bool.not_eq_true, Bool.not_eq_false, Bool.not_true, Bool.not_false, Int.not_lt, Int.not_le, not_or, not_and, Classical.not_not] at h19
      obtain ⟨x, hx1, hx2⟩ := ht.at (i := i) (by omega)
      have hxf := hl.n x (mem_at hx1)
      have hxt := hxf.fr.ok.t
      have hxq := hxf.fr.q
      have hxs := flt_small (hsm x (mem_at hx1))
      rw [hx2, allFr_cons, List.find?_append] at hp2
      refine T_skip_go (fun _ _ h => h) ?_
      refine T_seq ?_
      refine T_block ?_
      refine T_seq ?_
      refine T_region ?_
      refine S_ 20 rfl rfl rfl _ (y_indexAddr rfl rfl rfl Tryd.underlying48 sz70 (fun hg => ht.isSome (by omega)) (fun _ => by omega)) ?_
      refine S_ 21 rfl rfl rfl _ (y_loadT rfl rfl ht (fun _ => rfl) (fun _ => hx1) Tryd.underlying70 rfl sz70) ?_
      refine S_alloc 6 6 rfl rfl rfl rfl z70 ?_
      intro b6
      refine S_store 6 rfl rfl rfl rfl rfl rfl sz70 rfl rfl ?_
      refine S_go (fun _ _ h => h) ?_
      refine T_seq ?_
      refine T_region ?_
      refine S_ 22 rfl rfl rfl _ (y_fieldAddr rfl rfl fa70_2) ?_
      refine S_ 23 rfl rfl rfl _ (y_load 6 rfl rfl rfl rfl Tryd.underlying68 rfl) ?_
      refine S_ 24 rfl rfl rfl _ (y_len_slice rfl rfl Tryd.underlying68) ?_
      refine S_ 25 rfl rfl rfl _ (y_move rfl rfl) ?_
      refine S_go (fun _ _ h => h) ?_
      refine T_block ?_
      refine T_loopK1 (kf := [(2, 3), (8, 8), (25, 33)]) (kl := [(2, 3), (8, 8), (25, 33)]) (fun (j : Nat) => [(25, true, .int .i64 (j : Int))]) (fun (j : Nat) => []) (fun (j : Nat) => j ≤ x.fr.q ∧ x.fr.l.find? (·.own) = (x.fr.l.drop j).find? (·.own)) (fun (j : Nat) => x.fr.q - j) 0 (by repeat (first | exact kf_nil | (apply kf_in; focus rfl) | (apply kf_out; focus rfl))) (by repeat (first | exact kl_nil | exact kl_rest (by assumption) rfl | (apply kl_in; focus rfl) | (apply kl_out; focus rfl))) ?_ ?_ ?_ ?_
      · exact ⟨by omega, rfl⟩
      · exact ⟨rfl, trivial⟩
      · exact trivial
      rintro j ⟨hs1, hs2⟩
      refine T_seq ?_
      refine T_region ?_
      refine S_ 26 rfl rfl rfl _ (y_bin rfl rfl rfl (fun _ => b_lss)) ?_
      refine S_go (fun _ _ h => h) ?_
      refine T_seq ?_
      refine T_cond rfl (fun h26 => ?_) (fun h26 => ?_)
      · try simp only [decide_eq_true_eq, decide_eq_false_iff_not, Bool.or_eq_true, Bool.or_eq_false_iff, Bool.and_eq_true, Bool.and_eq_false_iff, Bool.not_eq_true', Bool.not_eq_false', Bool.not_eq_true, Bool.not_eq_false, Bool.not_true, Bool.not_false, Int.not_lt, Int.not_le, not_or, not_and, Classical.not_not] at h26
        obtain ⟨y, hy1, hy2⟩ := hxt.at (i := j) (by omega)
        refine T_skip_go (fun _ _ h => h) ?_
        refine T_seq ?_
        refine T_block ?_
        refine T_seq ?_
        refine T_region ?_
        refine S_ 27 rfl rfl rfl _ (y_indexAddr rfl rfl rfl Tryd.underlying68 sz148 (fun hg => hxt.isSome (by omega)) (fun _ => by omega)) ?_
        refine S_ 28 rfl rfl rfl _ (y_loadT rfl rfl hxt (fun _ => rfl) (fun _ => hy1) Tryd.underlying148 rfl sz148) ?_
        refine S_alloc 8 8 rfl rfl rfl rfl z148 ?_
        intro b8
        refine S_store 8 rfl rfl rfl rfl rfl rfl sz148 rfl rfl ?_
        refine S_go (fun _ _ h => h) ?_
        refine T_seq ?_
        refine T_region ?_
        refine S_ 29 rfl rfl rfl _ (y_fieldAddr rfl rfl fa148_5) ?_
        refine S_ 30 rfl rfl rfl _ (y_load 8 rfl rfl rfl rfl Tryd.underlying4 rfl) ?_
        refine S_go (fun _ _ h => h) ?_
        refine T_cond rfl (fun h30 => ?_) (fun h30 => ?_)
        · skip
          refine T_seq ?_
          refine T_region ?_
          refine S_ 31 rfl rfl rfl _ (y_loadA 8 rfl rfl rfl Tryd.underlying148 rfl sz148) ?_
          refine S_ 32 rfl rfl rfl _ (y_call rfl rfl rfl cf111 (fun _ w _ => call_any y (hxs y (mem_at hy1)).1 (hxs y (mem_at hy1)).2 w)) ?_
          refine S_ 2 rfl rfl rfl _ (y_assign rfl rfl) ?_
          refine S_ 3 rfl rfl rfl _ (y_assign rfl rfl) ?_
          refine S_go (fun _ _ h => h) ?_
          refine T_ret (fun a w hF hM => hRb a w (post2 rfl rfl rfl (fun w hM => ?_) a w hF hM))
          exact ⟨by rw [culB, if_neg (by simp [h0]), culF_own (x := y) (by rw [hp2, hs2, hy2, List.find?_cons_of_pos (by simpa using h30)]; rfl), h0], hM.below⟩
        · skip
          refine T_skip_go (fun _ _ h => h) ?_
          refine T_region ?_
          refine S_ 33 rfl rfl rfl _ (y_bin rfl rfl rfl (fun hg => b_add (by omega))) ?_
          refine S_ 25 rfl rfl rfl _ (y_move rfl rfl) ?_
          refine S_nil (nextK1 (kf := [(2, 3), (8, 8), (25, 33)]) (kl := [(2, 3), (8, 8), (25, 33)]) (j + 1) (by repeat (first | exact kf_nil | (apply kf_in; focus rfl) | (apply kf_out; focus rfl))) (by repeat (first | exact kl_nil | exact kl_rest (by assumption) rfl | (apply kl_in; focus rfl) | (apply kl_out; focus rfl))) ?_ ?_ ?_ ?_)
          · omega
          · exact ⟨by omega, by rw [hs2, hy2, List.find?_cons_of_neg (by simp [h30])]⟩
          · exact ⟨rfl, trivial⟩
          · exact trivial
      · try simp only [decide_eq_true_eq, decide_eq_false_iff_not, Bool.or_eq_true, Bool.or_eq_false_iff, Bool.and_eq_true, Bool.and_eq_false_iff, Bool.not_eq_true', Bool.not_eq_false', Bool.not_eq_true, Bool.not_eq_false, Bool.not_true, Bool.not_false, Int.not_lt, Int.not_le, not_or, not_and, Classical.not_not] at h26
        refine T_exit_go (fun _ _ h => h) ?_
        refine T_region ?_
        refine S_ 34 rfl rfl rfl _ (y_bin rfl rfl rfl (fun hg => b_add (by omega))) ?_
        refine S_ 18 rfl rfl rfl _ (y_move rfl rfl) ?_
        refine S_nil (nextK1 (kf := [(2, 3), (6, 6), (8, 8), (18, 34)]) (kl := [(2, 3), (6, 6), (8, 8), (18, 34)]) (i + 1) (by repeat (first | exact kf_nil | (apply kf_in; focus rfl) | (apply kf_out; focus rfl))) (by repeat (first | exact kl_nil | exact kl_rest (by assumption) rfl | (apply kl_in; focus rfl) | (apply kl_out; focus rfl))) ?_ ?_ ?_ ?_)
        · omega
        · exact ⟨by omega, by rw [hp2, hs2, hxt.end (by omega)]; rfl⟩
        · exact ⟨rfl, trivial⟩
        · exact trivial
    · try simp only [decide_eq_true_eq, decide_eq_false_iff_not, Bool.or_eq_true, Bool.or_eq_false_iff, Bool.and_eq_true, Bool.and_eq_false_iff, Bool.not_eq_true', Bool.not_eq_false', Bool.not_eq_true, Bool.not_eq_false, Bool.not_true, Bool.not_false, Int.not_lt, Int.not_le, not_or, not_and, Classical.not_not] at h19
      have hnone : (allFr l.l).find? (·.own) = none := by rw [hp2, ht.end (by omega)]; rfl
      refine T_exit_go (fun _ _ h => h) ?_
      refine T_seq ?_
      refine T_seq ?_
      refine T_region ?_
      refine S_ 35 rfl rfl rfl _ (y_move rfl rfl) ?_
      refine S_ 36 rfl rfl rfl _ (y_len_slice rfl rfl Tryd.underlying48) ?_
      refine S_ 37 rfl rfl rfl _ (y_move rfl rfl) ?_
      refine S_go (fun _ _ h => h) ?_
      refine T_block ?_
      refine T_loopK1 (kf := [(2, 3), (10, 10), (37, 50)]) (kl := [(2, 3), (10, 10), (37, 50)]) (fun (k : Nat) => [(37, true, .int .i64 (k : Int))]) (fun (k : Nat) => []) (fun (k : Nat) => k ≤ l.q ∧ (allFr l.l).head? = (allFr (l.l.drop k)).head?) (fun (k : Nat) => l.q - k) 0 (by repeat (first | exact kf_nil | (apply kf_in; focus rfl) | (apply kf_out; focus rfl))) (by repeat (first | exact kl_nil | exact kl_rest (by assumption) rfl | (apply kl_in; focus rfl) | (apply kl_out; focus rfl))) ?_ ?_ ?_ ?_
      · exact ⟨by omega, rfl⟩
      · exact ⟨rfl, trivial⟩
      · exact trivial
      rintro k ⟨hr1, hr2⟩
      refine T_seq ?_
      refine T_region ?_
      refine S_ 38 rfl rfl rfl _ (y_bin rfl rfl rfl (fun _ => b_lss)) ?_
      refine S_go (fun _ _ h => h) ?_
      refine T_seq ?_
      refine T_cond rfl (fun h38 => ?_) (fun h38 => ?_)
      · try simp only [decide_eq_true_eq, decide_eq_false_iff_not, Bool.or_eq_true, Bool.or_eq_false_iff, Bool.and_eq_true, Bool.and_eq_false_iff, Bool.not_eq_true', Bool.not_eq_false', Bool.not_eq_true, Bool.not_eq_false, Bool.not_true, Bool.not_false, Int.not_lt, Int.not_le, not_or, not_and, Classical.not_not] at h38
        obtain ⟨x, hx1, hx2⟩ := ht.at (i := k) (by omega)
        have hxf := hl.n x (mem_at hx1)
        have hxt := hxf.fr.ok.t
        have hxq := hxf.fr.q
        have hxs := flt_small (hsm x (mem_at hx1))
        rw [hx2, allFr_cons, List.head?_append] at hr2
        refine T_skip_go (fun _ _ h => h) ?_
        refine T_seq ?_
        refine T_block ?_
        refine T_seq ?_
        refine T_region ?_
        refine S_ 39 rfl rfl rfl _ (y_indexAddr rfl rfl rfl Tryd.underlying48 sz70 (fun hg => ht.isSome (by omega)) (fun _ => by omega)) ?_
        refine S_ 40 rfl rfl rfl _ (y_loadT rfl rfl ht (fun _ => rfl) (fun _ => hx1) Tryd.underlying70 rfl sz70) ?_
        refine S_alloc 10 10 rfl rfl rfl rfl z70 ?_
        intro b10
        refine S_store 10 rfl rfl rfl rfl rfl rfl sz70 rfl rfl ?_
        refine S_go (fun _ _ h => h) ?_
        refine T_seq ?_
        refine T_region ?_
        refine S_ 41 rfl rfl rfl _ (y_fieldAddr rfl rfl fa70_2) ?_
        refine S_ 42 rfl rfl rfl _ (y_load 10 rfl rfl rfl rfl Tryd.underlying68 rfl) ?_
        refine S_ 43 rfl rfl rfl _ (y_len_slice rfl rfl Tryd.underlying68) ?_
        refine S_ 44 rfl rfl rfl _ (y_bin rfl rfl rfl (fun _ => b_gtr)) ?_
        refine S_go (fun _ _ h => h) ?_
        refine T_cond rfl (fun h44 => ?_) (fun h44 => ?_)
        · try simp only [decide_eq_true_eq, decide_eq_false_iff_not, Bool.or_eq_true, Bool.or_eq_false_iff, Bool.and_eq_true, Bool.and_eq_false_iff, Bool.not_eq_true', Bool.not_eq_false', Bool.not_eq_true, Bool.not_eq_false, Bool.not_true, Bool.not_false, Int.not_lt, Int.not_le, not_or, not_and, Classical.not_not] at h44
          obtain ⟨y, hy1, hy2⟩ := hxt.at (i := 0) (by omega)
          refine T_seq ?_
          refine T_region ?_
          refine S_ 45 rfl rfl rfl _ (y_fieldAddr rfl rfl fa70_2) ?_
          refine S_ 46 rfl rfl rfl _ (y_load 10 rfl rfl rfl rfl Tryd.underlying68 rfl) ?_
          refine S_ 47 rfl rfl rfl _ (y_indexAddrI (j := 0) rfl rfl rfl (fun _ => rfl) Tryd.underlying68 sz148 (fun hg => hxt.isSome (by omega)) (fun _ => by omega)) ?_
          refine S_ 48 rfl rfl rfl _ (y_loadT rfl rfl hxt (fun _ => rfl) (fun _ => hy1) Tryd.underlying148 rfl sz148) ?_
          refine S_ 49 rfl rfl rfl _ (y_call rfl rfl rfl cf111 (fun _ w _ => call_any y (hxs y (mem_at hy1)).1 (hxs y (mem_at hy1)).2 w)) ?_
          refine S_ 2 rfl rfl rfl _ (y_assign rfl rfl) ?_
          refine S_ 3 rfl rfl rfl _ (y_assign rfl rfl) ?_
          refine S_go (fun _ _ h => h) ?_
          refine T_ret (fun a w hF hM => hRb a w (post2 rfl rfl rfl (fun w hM => ?_) a w hF hM))
          exact ⟨by rw [culB, if_neg (by simp [h0]), culF_hd (x := y) hnone (by rw [hr2, show x.fr.l = y :: x.fr.l.drop 1 from hy2]; rfl), h0], hM.below⟩
        · try simp only [decide_eq_true_eq, decide_eq_false_iff_not, Bool.or_eq_true, Bool.or_eq_false_iff, Bool.and_eq_true, Bool.and_eq_false_iff, Bool.not_eq_true', Bool.not_eq_false', Bool.not_eq_true, Bool.not_eq_false, Bool.not_true, Bool.not_false, Int.not_lt, Int.not_le, not_or, not_and, Classical.not_not] at h44
          have hxe : x.fr.l = [] := List.eq_nil_of_length_eq_zero (by have := hxt.len; omega)
          refine T_skip_go (fun _ _ h => h) ?_
          refine T_region ?_
          refine S_ 50 rfl rfl rfl _ (y_bin rfl rfl rfl (fun hg => b_add (by omega))) ?_
          refine S_ 37 rfl rfl rfl _ (y_move rfl rfl) ?_
          refine S_nil (nextK1 (kf := [(2, 3), (10, 10), (37, 50)]) (kl := [(2, 3), (10, 10), (37, 50)]) (k + 1) (by repeat (first | exact kf_nil | (apply kf_in; focus rfl) | (apply kf_out; focus rfl))) (by repeat (first | exact kl_nil | exact kl_rest (by assumption) rfl | (apply kl_in; focus rfl) | (apply kl_out; focus rfl))) ?_ ?_ ?_ ?_)
          · omega
          · exact ⟨by omega, by rw [hr2, hxe]; rfl⟩
          · exact ⟨rfl, trivial⟩
          · exact trivial
      · try simp only [decide_eq_true_eq, decide_eq_false_iff_not, Bool.or_eq_true, Bool.or_eq_false_iff, Bool.and_eq_true, Bool.and_eq_false_iff, Bool.not_eq_true', Bool.not_eq_false', Bool.not_eq_true, Bool.not_eq_false, Bool.not_true, Bool.not_false, Int.not_lt, Int.not_le, not_or, not_and, Classical.not_not] at h38
        refine T_exit_go (fun _ _ h => h) ?_
        refine T_seq ?_
        refine T_region ?_
        refine S_ 2 rfl rfl rfl _ (y_assign rfl rfl) ?_
        refine S_ 3 rfl rfl rfl _ (y_assign rfl rfl) ?_
        refine S_go (fun _ _ h => h) ?_
        refine T_ret (fun a w hF hM => hRb a w (post2 rfl rfl rfl (fun w hM => ?_) a w hF hM))
        exact ⟨by rw [culB, if_neg (by simp [h0]), culF_no hnone (by rw [hr2, ht.end (by omega)]; rfl), h0], hM.below⟩
/-! ### The closure and ContainsFunc of faults -/
theorem top1_any (x : Flt) (a1 : Addr) (f : Int) (w : World) (hb1 : a1.block < w.heap.size) (h1 : w.cell? (a1.add 0) = some (.int .i64 f)) :
    Calls Tryd.prog 45 #[.agg x.enc.toArray, .pointer (some a1)] w fun e w' => e = .returned (.bool (decide (f < x.fr.q))) ∧ Below w.heap.size w w' := by
  refine enter_args (args := [.agg #[str x.k, str x.t, .slice x.fr.A x.fr.q x.fr.c], .pointer (some a1)]) (F := _) Tryd.func45 rfl Tryd.ntmps45 rfl rfl ?_
  intro Rb hRb hRn
  refine T_seq ?_
  refine T_region ?_
  refine S_box 2 2 rfl rfl rfl rfl rfl ?_
  intro b2
  refine S_ 3 rfl rfl rfl _ (y_assign rfl rfl) ?_
  refine S_go (fun _ _ h => h) ?_
  refine T_seq ?_
  refine T_region ?_
  refine S_ 4 rfl rfl rfl _ (y_fieldAddr rfl rfl fa70_2) ?_
  refine S_ 5 rfl rfl rfl _ (y_load 2 rfl rfl rfl rfl Tryd.underlying68 rfl) ?_
  refine S_ 6 rfl rfl rfl _ (y_len_slice rfl rfl Tryd.underlying68) ?_
  refine S_ 7 rfl rfl rfl _ (y_fieldAddr rfl rfl fa64_0) ?_
  refine S_ 8 rfl rfl rfl _ (y_load_far rfl rfl h1 (by rw [block_of_add]; exact hb1) Tryd.underlying3 rfl) ?_
  refine S_ 9 rfl rfl rfl _ (y_bin rfl rfl rfl (fun _ => b_gtr)) ?_
  refine S_ 3 rfl rfl rfl _ (y_assign rfl rfl) ?_
  refine S_go (fun _ _ h => h) ?_
  refine T_ret (fun a w hF hM => hRb a w (post1 rfl rfl (fun w hM => ?_) a w hF hM))
  exact ⟨rfl, hM.below⟩
theorem ContainsFlt_any (l : Sl Flt) (g : FuncId) (cap : Array Value) (p : Flt → Bool) (w : World) (hl : SlT Flt.enc 3 w l.A l.q l.l) (hq : l.q ≤ 4611686018427387904) (hcf : ∀ args w', (callFunc g args).run Tryd.prog w' = .ok (.enter g args) w')
    (hA : ∀ x w', Below w.heap.size w w' → Calls Tryd.prog g (#[.agg x.enc.toArray] ++ cap) w' fun e w'' => e = .returned (.bool (p x)) ∧ Below w'.heap.size w' w'') :
    Calls Tryd.prog 44 #[.slice l.A l.q l.c, .func (.func g) #[] cap] w fun e w' => e = .returned (.bool (l.l.any p)) ∧ Below w.heap.size w w' := by
  have hI : ∀ w1, Below w.heap.size w w1 → Calls Tryd.prog 112 #[.slice l.A l.q l.c, .func (.func g) #[] cap] w1 fun e w' => ∃ n : Int, e = .returned (.int .i64 n) ∧ (decide (0 ≤ n) = l.l.any p) ∧ Below w1.heap.size w1 w' := by
    intro w1 hb1
    have hl1 := hl.below hb1
    refine enter_args (args := [.slice l.A l.q l.c, .func (.func g) #[] cap]) (F := _) Tryd.func112 rfl Tryd.ntmps112 rfl rfl ?_
    intro Rb hRb hRn
    refine T_seq ?_
    refine T_region ?_
    refine S_ 4 rfl rfl rfl _ (y_assign rfl rfl) ?_
    refine S_go (fun _ _ h => h) ?_
    refine T_seq ?_
    refine T_seq ?_
    refine T_region ?_
    refine S_ 6 rfl rfl rfl _ (y_move rfl rfl) ?_
    refine S_ 7 rfl rfl rfl _ (y_len_slice rfl rfl Tryd.underlying48) ?_
    refine S_ 8 rfl rfl rfl _ (y_move rfl rfl) ?_
    refine S_go (fun _ _ h => h) ?_
    refine T_block ?_
    refine T_loopK1 (kf := [(4, 5), (8, 18)]) (kl := [(4, 5), (8, 18)]) (fun (i : Nat) => [(8, true, .int .i64 (i : Int))]) (fun (i : Nat) => []) (fun (i : Nat) => i ≤ l.q ∧ l.l.any p = (l.l.drop i).any p) (fun (i : Nat) => l.q - i) 0 (by repeat (first | exact kf_nil | (apply kf_in; focus rfl) | (apply kf_out; focus rfl))) (by repeat (first | exact kl_nil | exact kl_rest (by assumption) rfl | (apply kl_in; focus rfl) | (apply kl_out; focus rfl))) ?_ ?_ ?_ ?_
    · exact ⟨by omega, rfl⟩
    · exact ⟨rfl, trivial⟩
    · exact trivial
    rintro i ⟨hp1, hp2⟩
    refine T_seq ?_
    refine T_region ?_
    refine S_ 9 rfl rfl rfl _ (y_bin rfl rfl rfl (fun _ => b_lss)) ?_
    refine S_go (fun _ _ h => h) ?_
    refine T_seq ?_
    refine T_cond rfl (fun h9 => ?_) (fun h9 => ?_)
    · try simp only [decide_eq_true_eq, decide_eq_false_iff_not, Bool.or_eq_true, Bool.or_eq_false_iff, Bool.and_eq_true, Bool.and_eq_false_iff, Bool.not_eq_true', Bool.not_eq_false', Bool.not_eq_true, Bool.not_eq_false, Bool.not_true, Bool.not_false, Int.not_lt, Int.not_le, not_or, not_and, Classical.not_not] at h9
      obtain ⟨x, hx1, hx2⟩ := hl1.at (i := i) (by omega)
      refine T_skip_go (fun _ _ h => h) ?_
      refine T_seq ?_
      refine T_block ?_
      refine T_seq ?_
      refine T_region ?_
      refine S_ 10 rfl rfl rfl _ (y_move rfl rfl) ?_
      refine S_ 5 rfl rfl rfl _ (y_assign rfl rfl) ?_
      refine S_go (fun _ _ h => h) ?_
      refine T_seq ?_
      refine T_region ?_
      refine S_ 11 rfl rfl rfl _ (y_move rfl rfl) ?_
      refine S_ 12 rfl rfl rfl _ (y_move rfl rfl) ?_
      refine S_ 13 rfl rfl rfl _ (y_move rfl rfl) ?_
      refine S_ 14 rfl rfl rfl _ (y_indexAddr rfl rfl rfl Tryd.underlying48 sz70 (fun hg => hl1.isSome (by omega)) (fun _ => by omega)) ?_
      refine S_ 15 rfl rfl rfl _ (y_loadT rfl rfl hl1 (fun _ => rfl) (fun _ => hx1) Tryd.underlying70 rfl sz70) ?_
      refine S_ 16 rfl rfl rfl _ (y_call rfl rfl rfl hcf (fun _ w2 hM => hA x w2 (hb1.trans (hM.below.mono hb1.size)))) ?_
      refine S_go (fun _ _ h => h) ?_
      refine T_cond rfl (fun h16 => ?_) (fun h16 => ?_)
      · skip
        refine T_seq ?_
        refine T_region ?_
        refine S_ 17 rfl rfl rfl _ (y_move rfl rfl) ?_
        refine S_ 4 rfl rfl rfl _ (y_assign rfl rfl) ?_
        refine S_go (fun _ _ h => h) ?_
        refine T_ret (fun a w hF hM => hRb a w (post1 rfl rfl (fun w hM => ?_) a w hF hM))
        exact ⟨(i : Int), rfl, by rw [hp2, hx2, List.any_cons, h16, Bool.true_or]; simp, hM.below⟩
      · skip
        refine T_skip_go (fun _ _ h => h) ?_
        refine T_region ?_
        refine S_ 18 rfl rfl rfl _ (y_bin rfl rfl rfl (fun hg => b_add (by omega))) ?_
        refine S_ 8 rfl rfl rfl _ (y_move rfl rfl) ?_
        refine S_nil (nextK1 (kf := [(4, 5), (8, 18)]) (kl := [(4, 5), (8, 18)]) (i + 1) (by repeat (first | exact kf_nil | (apply kf_in; focus rfl) | (apply kf_out; focus rfl))) (by repeat (first | exact kl_nil | exact kl_rest (by assumption) rfl | (apply kl_in; focus rfl) | (apply kl_out; focus rfl))) ?_ ?_ ?_ ?_)
        · omega
        · exact ⟨by omega, by rw [hp2, hx2, List.any_cons, h16, Bool.false_or]⟩
        · exact ⟨rfl, trivial⟩
        · exact trivial
    · try simp only [decide_eq_true_eq, decide_eq_false_iff_not, Bool.or_eq_true, Bool.or_eq_false_iff, Bool.and_eq_true, Bool.and_eq_false_iff, Bool.not_eq_true', Bool.not_eq_false', Bool.not_eq_true, Bool.not_eq_false, Bool.not_true, Bool.not_false, Int.not_lt, Int.not_le, not_or, not_and, Classical.not_not] at h9
      refine T_exit_go (fun _ _ h => h) ?_
      refine T_seq ?_
      refine T_region ?_
      refine S_ 4 rfl rfl rfl _ (y_assign rfl rfl) ?_
      refine S_go (fun _ _ h => h) ?_
      refine T_ret (fun a w hF hM => hRb a w (post1 rfl rfl (fun w hM => ?_) a w hF hM))
      exact ⟨-1, rfl, by rw [hp2, hl1.end (by omega)]; rfl, hM.below⟩
  refine enter_args (args := [.slice l.A l.q l.c, .func (.func g) #[] cap]) (F := _) Tryd.func44 rfl Tryd.ntmps44 rfl rfl ?_
  intro Rb hRb hRn
  refine T_seq ?_
  refine T_region ?_
  refine S_ 4 rfl rfl rfl _ (y_assign rfl rfl) ?_
  refine S_go (fun _ _ h => h) ?_
  refine T_seq ?_
  refine T_region ?_
  refine S_ 5 rfl rfl rfl _ (y_move rfl rfl) ?_
  refine S_ 6 rfl rfl rfl _ (y_move rfl rfl) ?_
  refine S_callM 7 [] (X := Int) rfl rfl rfl rfl rfl rfl rfl cf112 rfl (fun n => .int .i64 n) (fun n => decide (0 ≤ n) = l.l.any p) (fun _ => []) (fun _ => rfl) (fun _ => rfl) (fun K1 hK1 w1 hM => (hI w1 hM.below).mono fun e w2 ⟨n, h1, h2, h3⟩ => ⟨n, h1, h2, hM.call h3⟩) ?_
  rintro n hn
  refine S_ 8 rfl rfl rfl _ (y_bin rfl rfl rfl (fun _ => b_geq)) ?_
  refine S_ 4 rfl rfl rfl _ (y_assign rfl rfl) ?_
  refine S_go (fun _ _ h => h) ?_
  refine T_ret (fun a w hF hM => hRb a w (post1 rfl rfl (fun w hM => ?_) a w hF hM))
  exact ⟨by rw [← hn], hM.below⟩
/-! ### The law -/
theorem faults_pos {l : Sl Flt} (h : faultsNo l = 0) : 0 < l.q := by
  unfold faultsNo at h
  split at h
  · cases h
  · omega
theorem allFr_short {f x : Int} : ∀ {l m : List Flt}, l.map Flt.cont = m.map (fitF f x) → (∀ y ∈ m, y.fr.l.length ≤ f.toNat) → allFr l = allFr m
  | [], [], _, _ => rfl
  | [], _ :: _, h, _ => by simp at h
  | _ :: _, [], h, _ => by simp at h
  | a :: l, b :: m, h, hs => by
    simp only [List.map_cons, List.cons.injEq] at h
    have h1 : a.fr.l = b.fr.l := by
      have := congrArg (fun p : List UInt8 × List UInt8 × List Frm => p.2.2) h.1
      simp only [Flt.cont, fitF] at this
      rw [this, cutF, if_pos (hs b List.mem_cons_self)]
    rw [allFr_cons, allFr_cons, h1, allFr_short h.2 fun y hy => hs y (List.mem_cons_of_mem _ hy)]
theorem tawake_any (w : World) (hT : TzTab w) :
    Calls Tryd.prog 41 #[] w fun e w' => e = .returned (.bool true) ∧ Below w.heap.size w w' := by
  refine enter_args (args := []) (F := _) Tryd.func41 rfl Tryd.ntmps41 rfl rfl ?_
  intro Rb hRb hRn
  refine T_seq ?_
  refine T_region ?_
  refine S_ 0 rfl rfl rfl _ (y_assign rfl rfl) ?_
  refine S_go (fun _ _ h => h) ?_
  refine T_seq ?_
  refine T_region ?_
  refine S_ 1 rfl rfl rfl _ (y_call rfl rfl rfl cf39 (fun _ w hM => Sum_any [] (by decide) w (hT.below hM.below))) ?_
  refine S_ 2 rfl rfl rfl _ (y_bin rfl rfl rfl (fun _ => b_eqls)) ?_
  refine S_ 0 rfl rfl rfl _ (y_assign rfl rfl) ?_
  refine S_go (fun _ _ h => h) ?_
  refine T_ret (fun a w hF hM => hRb a w (post1 rfl rfl (fun w hM => ?_) a w hF hM))
  exact ⟨by kernel_rfl, hM.below⟩
set_option maxHeartbeats 1600000 in
theorem TopLimited_any (e : Evt) (f c t x : Int) (w : World) (he : e.Ok w) (hT : TzTab w) :
    Calls Tryd.prog 6 #[e.val, .agg #[.int .i64 f, .int .i64 c, .int .i64 t, .int .i64 x]] w fun en w' => en = .returned (.bool true) ∧ Below w.heap.size w w' := by
  refine enter_args (args := [.agg #[str e.id, .int .i64 e.at_, .int .i64 e.lv, .slice e.fa.A e.fa.q e.fa.c, .slice e.ta.A e.ta.q e.ta.c, .slice e.cr.A e.cr.q e.cr.c, str e.rel, str e.us, .int .i64 e.wt], .agg #[.int .i64 f, .int .i64 c, .int .i64 t, .int .i64 x]]) (F := _) Tryd.func6 rfl Tryd.ntmps6 rfl rfl ?_
  intro Rb hRb hRn
  refine T_seq ?_
  refine T_region ?_
  refine S_box 2 2 rfl rfl rfl rfl rfl ?_
  intro b2
  refine S_box 3 3 rfl rfl rfl rfl rfl ?_
  intro b3
  refine S_ 4 rfl rfl rfl _ (y_assign rfl rfl) ?_
  refine S_go (fun _ _ h => h) ?_
  refine T_seq ?_
  refine T_seq ?_
  refine T_region ?_
  refine S_ 12 rfl rfl rfl _ (y_call rfl rfl rfl cf41 (fun _ w hM => tawake_any w (hT.below hM.below))) ?_
  refine S_ 13 rfl rfl rfl _ (y_not rfl rfl) ?_
  refine S_go (fun _ _ h => h) ?_
  refine T_cond rfl (fun h13 => ?_) (fun h13 => ?_)
  · skip
    cases h13
  · skip
    refine T_skip_go (fun _ _ h => h) ?_
    refine T_seq ?_
    refine T_region ?_
    refine S_ 15 rfl rfl rfl _ (y_loadA 2 rfl rfl rfl Tryd.underlying52 rfl sz52) ?_
    refine S_ 16 rfl rfl rfl _ (y_loadA 3 rfl rfl rfl Tryd.underlying64 rfl sz64) ?_
    refine S_callN 17 [] [(900, 900)] (X := FitR) rfl rfl rfl rfl rfl rfl rfl cf42 rfl (fun z => .tuple #[z.ev.val, .int .i64 (fitNo e f c t x)]) (fun z => (fitNo e f c t x = 0 → FitP e f c t x z.ev) ∧ Sees w z.rs fun w => z.ev.Ok w) (fun z => [(900, .many z.rs)]) (fun _ => rfl) (fun _ => rfl) (fun K1 hK1 w1 hM => Fit_any hK1 e f c t x w1 he hM) ?_
    rintro z hz1
    refine S_ 14 rfl rfl rfl _ (y_move rfl rfl) ?_
    refine S_ 18 rfl rfl rfl _ (y_extract rfl rfl rfl) ?_
    refine S_ 19 rfl rfl rfl _ (y_extract rfl rfl rfl) ?_
    refine S_alloc 5 5 rfl rfl rfl rfl z52 ?_
    intro b5
    refine S_store 5 rfl rfl rfl rfl rfl rfl sz52 rfl rfl ?_
    refine S_ 6 rfl rfl rfl _ (y_assign rfl rfl) ?_
    refine S_go (fun _ _ h => h) ?_
    refine T_seq ?_
    refine T_seq ?_
    refine T_region ?_
    refine S_ 20 rfl rfl rfl _ (y_move rfl rfl) ?_
    refine S_ 21 rfl rfl rfl _ (y_bin rfl rfl rfl (fun _ => b_neq)) ?_
    refine S_go (fun _ _ h => h) ?_
    refine T_cond rfl (fun h21 => ?_) (fun h21 => ?_)
    · try simp only [decide_eq_true_eq, decide_eq_false_iff_not, Bool.or_eq_true, Bool.or_eq_false_iff, Bool.and_eq_true, Bool.and_eq_false_iff, Bool.not_eq_true', Bool.not_eq_false', Bool.not_eq_true, Bool.not_eq_false, Bool.not_true, Bool.not_false, Int.not_lt, Int.not_le, not_or, not_and, Classical.not_not] at h21
      refine T_seq ?_
      refine T_region ?_
      refine S_ 4 rfl rfl rfl _ (y_assign rfl rfl) ?_
      refine S_go (fun _ _ h => h) ?_
      refine T_ret (fun a w hF hM => hRb a w (post1 rfl rfl (fun w hM => ?_) a w hF hM))
      exact ⟨rfl, hM.below⟩
    · try simp only [decide_eq_true_eq, decide_eq_false_iff_not, Bool.or_eq_true, Bool.or_eq_false_iff, Bool.and_eq_true, Bool.and_eq_false_iff, Bool.not_eq_true', Bool.not_eq_false', Bool.not_eq_true, Bool.not_eq_false, Bool.not_true, Bool.not_false, Int.not_lt, Int.not_le, not_or, not_and, Classical.not_not] at h21
      have hno : fitNo e f c t x = 0 := h21
      have hP := hz1.1 hno
      refine T_skip_go (fun _ _ h => h) ?_
      refine T_seq ?_
      refine T_region ?_
      refine S_rebase fun w1 hM1 => ?_
      have hb1 := hM1.below
      have hv := hz1.2.at hM1 900 rfl
      have C2 := hM1.box_cells 2 rfl
      have C3 := hM1.box_cells 3 rfl
      have C5 := hM1.box_cells 5 rfl
      have he1 := he.below hb1
      have hz0 : faultsNo z.ev.fa = 0 := (ev_parts (fit_right he hv hno hP)).1
      have he0 : faultsNo e.fa = 0 := (ev_parts (fit_parts hno).1).1
      have hvq := hv.fa.ok.t.len
      have heq := he1.fa.ok.t.len
      have hfq : z.ev.fa.q = e.fa.q := by have := congrArg List.length hP.fa; simp only [List.length_map] at this; omega
      obtain ⟨v, hv1, hv2⟩ := hv.fa.ok.t.at (i := 0) (faults_pos hz0)
      obtain ⟨y, hy1, hy2⟩ := map_at hP.fa hv1
      have hkk : v.k = y.k := congrArg (fun p : List UInt8 × List UInt8 × List Frm => p.1) hy2
      refine S_ 23 rfl rfl rfl _ (y_fieldAddr rfl rfl fa52_3) ?_
      refine S_ 24 rfl rfl rfl _ (y_load_far rfl rfl (C5.1 3 _ rfl) C5.2 Tryd.underlying48 rfl) ?_
      refine S_ 25 rfl rfl rfl _ (y_call rfl rfl rfl cf43 (fun _ w hM => Culprit_any z.ev.fa w (hv.fa.below hM.below))) ?_
      refine S_ 22 rfl rfl rfl _ (y_move rfl rfl) ?_
      refine S_ 26 rfl rfl rfl _ (y_extract rfl rfl rfl) ?_
      refine S_ 27 rfl rfl rfl _ (y_extract rfl rfl rfl) ?_
      refine S_ 7 rfl rfl rfl _ (y_assign rfl rfl) ?_
      refine S_ 8 rfl rfl rfl _ (y_assign rfl rfl) ?_
      refine S_go (fun _ _ h => h) ?_
      refine T_seq ?_
      refine T_region ?_
      refine S_ 29 rfl rfl rfl _ (y_fieldAddr rfl rfl fa52_3) ?_
      refine S_ 30 rfl rfl rfl _ (y_load_far rfl rfl (C2.1 3 _ rfl) C2.2 Tryd.underlying48 rfl) ?_
      refine S_ 31 rfl rfl rfl _ (y_call rfl rfl rfl cf43 (fun _ w hM => Culprit_any e.fa w (he1.fa.below hM.below))) ?_
      refine S_ 28 rfl rfl rfl _ (y_move rfl rfl) ?_
      refine S_ 32 rfl rfl rfl _ (y_extract rfl rfl rfl) ?_
      refine S_ 33 rfl rfl rfl _ (y_extract rfl rfl rfl) ?_
      refine S_ 9 rfl rfl rfl _ (y_assign rfl rfl) ?_
      refine S_ 10 rfl rfl rfl _ (y_assign rfl rfl) ?_
      refine S_go (fun _ _ h => h) ?_
      refine T_seq ?_
      refine T_seq ?_
      refine T_draws (by kernel_rfl) (by kernel_rfl) ?_
      refine D_ 34 rfl rfl rfl _ (y_move rfl rfl) ?_
      refine D_ 35 rfl rfl rfl _ (y_bin rfl rfl rfl (fun _ => b_neq)) ?_
      refine D_ 36 rfl rfl rfl _ (y_move rfl rfl) ?_
      refine Dg_ 37 rfl rfl rfl rfl rfl rfl _ (y_move rfl rfl) ?_
      refine Dg_ 38 rfl rfl rfl rfl rfl rfl _ (y_bin rfl rfl rfl (fun _ => b_neq)) ?_
      refine D_ 39 rfl rfl rfl _ (y_or rfl rfl rfl) ?_
      refine D_ 40 rfl rfl rfl _ (y_move rfl rfl) ?_
      refine Dg_ 41 rfl rfl rfl rfl rfl rfl _ (y_fieldAddr rfl rfl fa52_3) ?_
      refine Dg_ 42 rfl rfl rfl rfl rfl rfl _ (y_load_far rfl rfl (C5.1 3 _ rfl) C5.2 Tryd.underlying48 rfl) ?_
      refine Dg_ 43 rfl rfl rfl rfl rfl rfl _ (y_indexAddrI (j := 0) rfl rfl rfl (fun _ => rfl) Tryd.underlying48 sz70 (fun _ => hv.fa.ok.t.isSome (faults_pos hz0)) (fun _ => faults_pos hz0)) ?_
      refine Dg_ 44 rfl rfl rfl rfl rfl rfl _ (y_fieldEl rfl rfl hv.fa.ok.t.rd (fun _ => faults_pos hz0) fa70_0) ?_
      refine Dg_ 45 rfl rfl rfl rfl rfl rfl _ (y_load_fT rfl rfl hv.fa.ok.t (fun _ => rfl) (fun _ => hv1) rfl Tryd.underlying9 rfl) ?_
      refine Dg_ 46 rfl rfl rfl rfl rfl rfl _ (y_fieldAddr rfl rfl fa52_3) ?_
      refine Dg_ 47 rfl rfl rfl rfl rfl rfl _ (y_load_far rfl rfl (C2.1 3 _ rfl) C2.2 Tryd.underlying48 rfl) ?_
      refine Dg_ 48 rfl rfl rfl rfl rfl rfl _ (y_indexAddrI (j := 0) rfl rfl rfl (fun _ => rfl) Tryd.underlying48 sz70 (fun _ => he1.fa.ok.t.isSome (faults_pos he0)) (fun _ => faults_pos he0)) ?_
      refine Dg_ 49 rfl rfl rfl rfl rfl rfl _ (y_fieldEl rfl rfl he1.fa.ok.t.rd (fun _ => faults_pos he0) fa70_0) ?_
      refine Dg_ 50 rfl rfl rfl rfl rfl rfl _ (y_load_fT rfl rfl he1.fa.ok.t (fun _ => rfl) (fun _ => hy1) rfl Tryd.underlying9 rfl) ?_
      refine Dg_ 51 rfl rfl rfl rfl rfl rfl _ (y_bin rfl rfl rfl (fun _ => b_neqs)) ?_
      refine D_ 52 rfl rfl rfl _ (y_or rfl rfl rfl) ?_
      refine D_ 53 rfl rfl rfl _ (y_move rfl rfl) ?_
      refine Dg_ 54 rfl rfl rfl rfl rfl rfl _ (y_fieldAddr rfl rfl fa52_3) ?_
      refine Dg_ 55 rfl rfl rfl rfl rfl rfl _ (y_load_far rfl rfl (C5.1 3 _ rfl) C5.2 Tryd.underlying48 rfl) ?_
      refine Dg_ 56 rfl rfl rfl rfl rfl rfl _ (y_len_slice rfl rfl Tryd.underlying48) ?_
      refine Dg_ 57 rfl rfl rfl rfl rfl rfl _ (y_fieldAddr rfl rfl fa52_3) ?_
      refine Dg_ 58 rfl rfl rfl rfl rfl rfl _ (y_load_far rfl rfl (C2.1 3 _ rfl) C2.2 Tryd.underlying48 rfl) ?_
      refine Dg_ 59 rfl rfl rfl rfl rfl rfl _ (y_len_slice rfl rfl Tryd.underlying48) ?_
      refine Dg_ 60 rfl rfl rfl rfl rfl rfl _ (y_bin rfl rfl rfl (fun _ => b_neq)) ?_
      refine D_ 61 rfl rfl rfl _ (y_or rfl rfl rfl) ?_
      refine D_go (fun _ _ h => h) ?_
      refine T_cond rfl (fun h61 => ?_) (fun h61 => ?_)
      · skip
        simp [hz0, he0, hkk, hfq] at h61
      · skip
        refine T_skip_go (fun _ _ h => h) ?_
        refine T_seq ?_
        refine T_region ?_
        refine S_ 62 rfl rfl rfl _ (y_fieldAddr rfl rfl fa52_3) ?_
        refine S_ 63 rfl rfl rfl _ (y_load_far rfl rfl (C2.1 3 _ rfl) C2.2 Tryd.underlying48 rfl) ?_
        refine S_ 64 rfl rfl rfl _ (y_makeFunc rfl rfl rfl rfl rfl) ?_
        refine S_ 65 rfl rfl rfl _ (y_call rfl rfl rfl cf44 (fun _ w hM => ContainsFlt_any e.fa _ _ (fun x => decide (f < x.fr.q)) w (he1.fa.ok.t.below hM.below) he1.fa.q cf45 (fun x w2 hb => top1_any x _ f w2 (Nat.lt_of_lt_of_le C3.2 (Nat.le_trans hM.below.size hb.size)) ((hb.cell (Nat.lt_of_lt_of_le C3.2 hM.below.size)).trans ((hM.below.cell C3.2).trans (C3.1 0 _ rfl)))))) ?_
        refine S_ 66 rfl rfl rfl _ (y_not rfl rfl) ?_
        refine S_ 11 rfl rfl rfl _ (y_assign rfl rfl) ?_
        refine S_go (fun _ _ h => h) ?_
        refine T_seq ?_
        refine T_region ?_
        refine S_ 67 rfl rfl rfl _ (y_move rfl rfl) ?_
        refine S_ 68 rfl rfl rfl _ (y_not rfl rfl) ?_
        refine S_ 69 rfl rfl rfl _ (y_move rfl rfl) ?_
        refine Sg_ 70 rfl rfl rfl rfl rfl rfl _ (y_move rfl rfl) ?_
        refine Sg_ 71 rfl rfl rfl rfl rfl rfl _ (y_move rfl rfl) ?_
        refine Sg_ 72 rfl rfl rfl rfl rfl rfl _ (y_bin rfl rfl rfl (fun _ => b_eqls)) ?_
        refine S_ 73 rfl rfl rfl _ (y_or rfl rfl rfl) ?_
        refine S_ 4 rfl rfl rfl _ (y_assign rfl rfl) ?_
        refine S_go (fun _ _ h => h) ?_
        refine T_ret (fun a w hF hM => hRb a w (post1 rfl rfl (fun w hM => ?_) a w hF hM))
        refine ⟨?_, hb1.trans (hM.below.mono hb1.size)⟩
        have hres : (!(!(e.fa.l.any fun x => decide (f < x.fr.q))) || decide (culB z.ev.fa = culB e.fa)) = true := by
          cases ha : e.fa.l.any fun x => decide (f < x.fr.q) with
          | true => rfl
          | false =>
            rw [List.any_eq_false] at ha
            have hfr := allFr_short hP.fa fun y hy => by
              have h1 := ha y hy
              have h2 := (he.fa.n y hy).fr.ok.t.len
              have h3 := hvq
              simp only [decide_eq_true_eq] at h1
              omega
            simp [culB, hz0, he0, hfr]
        rw [hres]
end Go.Proofs.YtoeipmepmlikcaaDoor
