/- The reference: LookupFault, tableOf, MissingOf. Conditions: those of each theorem. -/
import Derived.Test.YtofolhnecfkjkaaDoorMiss
namespace Go.Proofs.YtofolhnecfkjkaaDoor
set_option linter.unusedSimpArgs false
set_option linter.unusedVariables false
set_option maxRecDepth 20000
open Go.RowKit Go.Eng
theorem tableOf1_any (t : Tab) (a1 : Addr) (s : List UInt8) (w : World) (hb1 : a1.block < w.heap.size) (h1 : w.cell? a1 = some (str s)) :
    Calls Tryd.prog 115 #[.agg t.enc.toArray, .pointer (some a1)] w fun e w' => e = .returned (.bool (t.hasId s)) ∧ Below w.heap.size w w' := by
  refine enter_args (args := [.agg #[str t.id, .int .i64 t.size, .slice t.fi.A t.fi.q t.fi.c, .slice t.fu.A t.fu.q t.fu.c, .slice t.ro.A t.ro.q t.ro.c, .slice t.ca.A t.ca.q t.ca.c], .pointer (some a1)]) (F := _) Tryd.func115 rfl Tryd.ntmps115 rfl rfl ?_
  intro Rb hRb hRn
  refine T_seq ?_
  refine T_region ?_
  refine S_box 2 2 rfl rfl rfl rfl rfl ?_
  intro b2
  refine S_ 3 rfl rfl rfl _ (y_assign rfl rfl) ?_
  refine S_go (fun _ _ h => h) ?_
  refine T_seq ?_
  refine T_region ?_
  refine S_ 4 rfl rfl rfl _ (y_fieldAddr rfl rfl fa27_0) ?_
  refine S_ 5 rfl rfl rfl _ (y_load 2 rfl rfl rfl rfl Tryd.underlying9 rfl) ?_
  refine S_ 6 rfl rfl rfl _ (y_load_far rfl rfl h1 hb1 Tryd.underlying9 rfl) ?_
  refine S_ 7 rfl rfl rfl _ (y_bin rfl rfl rfl (fun _ => b_eqls)) ?_
  refine S_ 3 rfl rfl rfl _ (y_assign rfl rfl) ?_
  refine S_go (fun _ _ h => h) ?_
  refine T_ret (fun a w hF hM => hRb a w (post1 rfl rfl (fun w hM => ?_) a w hF hM))
  exact ⟨rfl, hM.below⟩
theorem asks_tableOf {b1 : Nat} {s : List UInt8} {w : World} (h1 : w.cell? ⟨b1, 0, none⟩ = some (str s) ∧ b1 < w.heap.size) :
    Asks Tryd.prog Tab.enc w 115 #[.pointer (some ⟨b1, 0, none⟩)] (Tab.hasId s) :=
  ⟨cf115, fun t w' hb => tableOf1_any t ⟨b1, 0, none⟩ s w' (Nat.lt_of_lt_of_le h1.2 hb.size) ((hb.cell h1.2).trans h1.1)⟩
theorem tableOf_any (A : Option Addr) (q c : Nat) (l : List Tab) (s : List UInt8) (w : World) (hl : SlT Tab.enc 6 w A q l) (hq : q ≤ 4611686018427387904) :
    Calls Tryd.prog 75 #[.slice A q c, str s] w fun e w' => e = .returned (.int .i64 (findI (Tab.hasId s) l 0)) ∧ Below w.heap.size w w' := by
  refine enter_args (args := [.slice A q c, str s]) (F := _) Tryd.func75 rfl Tryd.ntmps75 rfl rfl ?_
  intro Rb hRb hRn
  refine T_seq ?_
  refine T_region ?_
  refine S_box 3 3 rfl rfl rfl rfl rfl ?_
  intro b3
  refine S_ 4 rfl rfl rfl _ (y_assign rfl rfl) ?_
  refine S_go (fun _ _ h => h) ?_
  refine T_seq ?_
  refine T_region ?_
  refine S_ 5 rfl rfl rfl _ (y_move rfl rfl) ?_
  refine S_ 6 rfl rfl rfl _ (y_makeFunc rfl rfl rfl rfl rfl) ?_
  refine S_ 7 rfl rfl rfl _ (y_call rfl rfl rfl cf81 (fun _ w hM => IndexFuncT_any _ _ _ _ _ _ (Tab.hasId s) w (hl.below hM.below) hq (asks_tableOf (hM.box_cell (i := 3) rfl rfl)))) ?_
  refine S_ 4 rfl rfl rfl _ (y_assign rfl rfl) ?_
  refine S_go (fun _ _ h => h) ?_
  refine T_ret (fun a w hF hM => hRb a w (post1 rfl rfl (fun w hM => ?_) a w hF hM))
  exact ⟨rfl, hM.below⟩
theorem any_ids (s : List UInt8) : ∀ l : List Tab, l.any (Tab.hasId s) = decide (s ∈ l.map Tab.id)
  | [] => rfl
  | a :: r => by
    rw [List.any_cons, any_ids s r, Bool.eq_iff_iff]
    show (decide (a.id = s) || decide (s ∈ r.map Tab.id)) = true ↔ decide (s ∈ a.id :: r.map Tab.id) = true
    simp only [Bool.or_eq_true, decide_eq_true_eq, List.mem_cons]
    exact ⟨fun h => h.elim (fun h => .inl h.symm) .inr, fun h => h.elim (fun h => .inl h.symm) .inr⟩
theorem find_ids (s : List UInt8) (l : List Tab) : 0 ≤ findI (Tab.hasId s) l 0 ↔ s ∈ l.map Tab.id := by
  have h := findI_any (Tab.hasId s) l 0 (by omega)
  rw [any_ids] at h
  exact decide_eq_decide.1 h
theorem LookupFault_any (fs : Sl Frm) (ms : Sl SMod) (ts : Sl Tab) (w : World) (hfs : FrmsOk w fs) (hms : ModsOk w ms) (hts : TabsOk w ts) :
    Calls Tryd.prog 27 #[.slice fs.A fs.q fs.c, .slice ms.A ms.q ms.c, .slice ts.A ts.q ts.c] w fun e w' => e = .returned (.int .i64 (allNo fs ms ts)) ∧ Below w.heap.size w w' := by
  have ht := hts.ok.t
  have hq := hts.q
  have hcap := hts.ok.cap
  refine enter_args (args := [.slice fs.A fs.q fs.c, .slice ms.A ms.q ms.c, .slice ts.A ts.q ts.c]) (F := _) Tryd.func27 rfl Tryd.ntmps27 rfl rfl ?_
  intro Rb hRb hRn
  refine T_seq ?_
  refine T_region ?_
  refine S_ 6 rfl rfl rfl _ (y_assign rfl rfl) ?_
  refine S_go (fun _ _ h => h) ?_
  refine T_seq ?_
  refine T_seq ?_
  refine T_region ?_
  refine S_ 12 rfl rfl rfl _ (y_move rfl rfl) ?_
  refine S_ 13 rfl rfl rfl _ (y_call rfl rfl rfl cf74 (fun _ w hM => FramesFault_any fs w (hfs.below hM.below))) ?_
  refine S_ 7 rfl rfl rfl _ (y_assign rfl rfl) ?_
  refine S_go (fun _ _ h => h) ?_
  refine T_seq ?_
  refine T_region ?_
  refine S_ 14 rfl rfl rfl _ (y_move rfl rfl) ?_
  refine S_ 15 rfl rfl rfl _ (y_bin rfl rfl rfl (fun _ => b_neq)) ?_
  refine S_go (fun _ _ h => h) ?_
  refine T_cond rfl (fun h15 => ?_) (fun h15 => ?_)
  · try simp only [decide_eq_true_eq, decide_eq_false_iff_not, Bool.or_eq_true, Bool.or_eq_false_iff, Bool.and_eq_true, Bool.and_eq_false_iff, Bool.not_eq_true', Bool.not_eq_false', Bool.not_eq_true, Bool.not_eq_false, Bool.not_true, Bool.not_false, Int.not_lt, Int.not_le, not_or, not_and, Classical.not_not] at h15
    refine T_seq ?_
    refine T_region ?_
    refine S_ 16 rfl rfl rfl _ (y_move rfl rfl) ?_
    refine S_ 6 rfl rfl rfl _ (y_assign rfl rfl) ?_
    refine S_go (fun _ _ h => h) ?_
    refine T_ret (fun a w hF hM => hRb a w (post1 rfl rfl (fun w hM => ?_) a w hF hM))
    exact ⟨by rw [allNo, fst_a rfl h15], hM.below⟩
  · try simp only [decide_eq_true_eq, decide_eq_false_iff_not, Bool.or_eq_true, Bool.or_eq_false_iff, Bool.and_eq_true, Bool.and_eq_false_iff, Bool.not_eq_true', Bool.not_eq_false', Bool.not_eq_true, Bool.not_eq_false, Bool.not_true, Bool.not_false, Int.not_lt, Int.not_le, not_or, not_and, Classical.not_not] at h15
    refine T_skip_go (fun _ _ h => h) ?_
    refine T_seq ?_
    refine T_seq ?_
    refine T_region ?_
    refine S_ 17 rfl rfl rfl _ (y_move rfl rfl) ?_
    refine S_ 18 rfl rfl rfl _ (y_call rfl rfl rfl cf16 (fun _ w hM => ModulesFault_any ms w (hms.ok.below hM.below) hms.q hms.n)) ?_
    refine S_ 8 rfl rfl rfl _ (y_assign rfl rfl) ?_
    refine S_go (fun _ _ h => h) ?_
    refine T_seq ?_
    refine T_region ?_
    refine S_ 19 rfl rfl rfl _ (y_move rfl rfl) ?_
    refine S_ 20 rfl rfl rfl _ (y_bin rfl rfl rfl (fun _ => b_neq)) ?_
    refine S_go (fun _ _ h => h) ?_
    refine T_cond rfl (fun h20 => ?_) (fun h20 => ?_)
    · try simp only [decide_eq_true_eq, decide_eq_false_iff_not, Bool.or_eq_true, Bool.or_eq_false_iff, Bool.and_eq_true, Bool.and_eq_false_iff, Bool.not_eq_true', Bool.not_eq_false', Bool.not_eq_true, Bool.not_eq_false, Bool.not_true, Bool.not_false, Int.not_lt, Int.not_le, not_or, not_and, Classical.not_not] at h20
      refine T_seq ?_
      refine T_region ?_
      refine S_ 21 rfl rfl rfl _ (y_move rfl rfl) ?_
      refine S_ 6 rfl rfl rfl _ (y_assign rfl rfl) ?_
      refine S_go (fun _ _ h => h) ?_
      refine T_ret (fun a w hF hM => hRb a w (post1 rfl rfl (fun w hM => ?_) a w hF hM))
      exact ⟨by rw [allNo, modulesNo, fst_b h15 (fst_a rfl h20)], hM.below⟩
    · try simp only [decide_eq_true_eq, decide_eq_false_iff_not, Bool.or_eq_true, Bool.or_eq_false_iff, Bool.and_eq_true, Bool.and_eq_false_iff, Bool.not_eq_true', Bool.not_eq_false', Bool.not_eq_true, Bool.not_eq_false, Bool.not_true, Bool.not_false, Int.not_lt, Int.not_le, not_or, not_and, Classical.not_not] at h20
      refine T_skip_go (fun _ _ h => h) ?_
      refine T_seq ?_
      refine T_seq ?_
      refine T_region ?_
      refine S_ 22 rfl rfl rfl _ (y_move rfl rfl) ?_
      refine S_ 23 rfl rfl rfl _ (y_len_slice rfl rfl Tryd.underlying58) ?_
      refine S_ 24 rfl rfl rfl _ (y_bin rfl rfl rfl (fun _ => b_gtr)) ?_
      refine S_go (fun _ _ h => h) ?_
      refine T_cond rfl (fun h24 => ?_) (fun h24 => ?_)
      · try simp only [decide_eq_true_eq, decide_eq_false_iff_not, Bool.or_eq_true, Bool.or_eq_false_iff, Bool.and_eq_true, Bool.and_eq_false_iff, Bool.not_eq_true', Bool.not_eq_false', Bool.not_eq_true, Bool.not_eq_false, Bool.not_true, Bool.not_false, Int.not_lt, Int.not_le, not_or, not_and, Classical.not_not] at h24
        refine T_seq ?_
        refine T_region ?_
        refine S_ 6 rfl rfl rfl _ (y_assign rfl rfl) ?_
        refine S_go (fun _ _ h => h) ?_
        refine T_ret (fun a w hF hM => hRb a w (post1 rfl rfl (fun w hM => ?_) a w hF hM))
        exact ⟨by rw [allNo, modulesNo, fst_b h15 (fst_b h20 (if_pos (by omega)))], hM.below⟩
      · try simp only [decide_eq_true_eq, decide_eq_false_iff_not, Bool.or_eq_true, Bool.or_eq_false_iff, Bool.and_eq_true, Bool.and_eq_false_iff, Bool.not_eq_true', Bool.not_eq_false', Bool.not_eq_true, Bool.not_eq_false, Bool.not_true, Bool.not_false, Int.not_lt, Int.not_le, not_or, not_and, Classical.not_not] at h24
        refine T_skip_go (fun _ _ h => h) ?_
        refine T_seq ?_
        refine T_seq ?_
        refine T_region ?_
        refine S_ 25 rfl rfl rfl _ (y_move rfl rfl) ?_
        refine S_ 26 rfl rfl rfl _ (y_len_slice rfl rfl Tryd.underlying58) ?_
        refine S_ 27 rfl rfl rfl _ (y_move rfl rfl) ?_
        refine S_go (fun _ _ h => h) ?_
        refine T_block ?_
        refine T_loopK1 (kf := [(6, 6), (9, 11), (27, 44)]) (kl := [(6, 6), (9, 11), (27, 44)]) (fun (i : Nat) => [(27, true, .int .i64 (i : Int))]) (fun (i : Nat) => []) (fun (i : Nat) => i ≤ ts.q ∧ tabsNo [] ts.l = tabsNo ((ts.l.take i).map Tab.id) (ts.l.drop i)) (fun (i : Nat) => ts.q - i) 0 (by repeat (first | exact kf_nil | (apply kf_in; focus rfl) | (apply kf_out; focus rfl))) (by repeat (first | exact kl_nil | exact kl_rest (by assumption) rfl | (apply kl_in; focus rfl) | (apply kl_out; focus rfl))) ?_ ?_ ?_ ?_
        · exact ⟨by omega, rfl⟩
        · exact ⟨rfl, trivial⟩
        · exact trivial
        rintro i ⟨hp1, hp2⟩
        refine T_seq ?_
        refine T_region ?_
        refine S_ 28 rfl rfl rfl _ (y_bin rfl rfl rfl (fun _ => b_lss)) ?_
        refine S_go (fun _ _ h => h) ?_
        refine T_seq ?_
        refine T_cond rfl (fun h28 => ?_) (fun h28 => ?_)
        · try simp only [decide_eq_true_eq, decide_eq_false_iff_not, Bool.or_eq_true, Bool.or_eq_false_iff, Bool.and_eq_true, Bool.and_eq_false_iff, Bool.not_eq_true', Bool.not_eq_false', Bool.not_eq_true, Bool.not_eq_false, Bool.not_true, Bool.not_false, Int.not_lt, Int.not_le, not_or, not_and, Classical.not_not] at h28
          obtain ⟨t, hx1, hx2⟩ := ht.at (i := i) (by omega)
          have hcut := ht.cut (lo := 0) (hi := i) (fun _ => rfl) (by omega) (by omega) hcap
          have hbe : (ts.l.drop 0).take (i - 0) = ts.l.take i := by simp
          have hfi := find_ids t.id (ts.l.take i)
          rw [← hbe] at hfi
          refine T_skip_go (fun _ _ h => h) ?_
          refine T_seq ?_
          refine T_block ?_
          refine T_seq ?_
          refine T_region ?_
          refine S_ 29 rfl rfl rfl _ (y_move rfl rfl) ?_
          refine S_ 30 rfl rfl rfl _ (y_indexAddr rfl rfl rfl Tryd.underlying58 sz27 (fun hg => ht.isSome (by omega)) (fun _ => by omega)) ?_
          refine S_ 31 rfl rfl rfl _ (y_loadT rfl rfl ht (fun _ => rfl) (fun _ => hx1) Tryd.underlying27 rfl sz27) ?_
          refine S_alloc 10 10 rfl rfl rfl rfl z27 ?_
          intro b10
          refine S_ 9 rfl rfl rfl _ (y_assign rfl rfl) ?_
          refine S_store 10 rfl rfl rfl rfl rfl rfl sz27 rfl rfl ?_
          refine S_go (fun _ _ h => h) ?_
          refine T_seq ?_
          refine T_seq ?_
          refine T_region ?_
          refine S_ 32 rfl rfl rfl _ (y_loadA 10 rfl rfl rfl Tryd.underlying27 rfl sz27) ?_
          refine S_ 33 rfl rfl rfl _ (y_call rfl rfl rfl cf14 (fun _ w hM => TableFault_any t w ((hts.n t (mem_at hx1)).below hM.below))) ?_
          refine S_ 11 rfl rfl rfl _ (y_assign rfl rfl) ?_
          refine S_go (fun _ _ h => h) ?_
          refine T_seq ?_
          refine T_region ?_
          refine S_ 34 rfl rfl rfl _ (y_move rfl rfl) ?_
          refine S_ 35 rfl rfl rfl _ (y_bin rfl rfl rfl (fun _ => b_neq)) ?_
          refine S_go (fun _ _ h => h) ?_
          refine T_cond rfl (fun h35 => ?_) (fun h35 => ?_)
          · try simp only [decide_eq_true_eq, decide_eq_false_iff_not, Bool.or_eq_true, Bool.or_eq_false_iff, Bool.and_eq_true, Bool.and_eq_false_iff, Bool.not_eq_true', Bool.not_eq_false', Bool.not_eq_true, Bool.not_eq_false, Bool.not_true, Bool.not_false, Int.not_lt, Int.not_le, not_or, not_and, Classical.not_not] at h35
            refine T_seq ?_
            refine T_region ?_
            refine S_ 36 rfl rfl rfl _ (y_move rfl rfl) ?_
            refine S_ 6 rfl rfl rfl _ (y_assign rfl rfl) ?_
            refine S_go (fun _ _ h => h) ?_
            refine T_ret (fun a w hF hM => hRb a w (post1 rfl rfl (fun w hM => ?_) a w hF hM))
            exact ⟨by rw [allNo, modulesNo, fst_b h15 (fst_b h20 (if_neg (by omega))), hp2, hx2, tabsNo, if_pos h35], hM.below⟩
          · try simp only [decide_eq_true_eq, decide_eq_false_iff_not, Bool.or_eq_true, Bool.or_eq_false_iff, Bool.and_eq_true, Bool.and_eq_false_iff, Bool.not_eq_true', Bool.not_eq_false', Bool.not_eq_true, Bool.not_eq_false, Bool.not_true, Bool.not_false, Int.not_lt, Int.not_le, not_or, not_and, Classical.not_not] at h35
            refine T_skip_go (fun _ _ h => h) ?_
            refine T_seq ?_
            refine T_draws (by kernel_rfl) (by kernel_rfl) ?_
            refine D_ 37 rfl rfl rfl _ (y_move rfl rfl) ?_
            refine D_ 38 rfl rfl rfl _ (y_move rfl rfl) ?_
            refine D_ 39 rfl rfl rfl _ (y_slice rfl rfl Tryd.underlying58 sz27 (.inl ⟨rfl, rfl⟩) (.inr ⟨_, _, rfl, rfl⟩) (by omega) (by omega) hcap) ?_
            refine D_ 40 rfl rfl rfl _ (y_fieldAddr rfl rfl fa27_0) ?_
            refine D_ 41 rfl rfl rfl _ (y_load 10 rfl rfl rfl rfl Tryd.underlying9 rfl) ?_
            refine D_ 42 rfl rfl rfl _ (y_call rfl rfl rfl cf75 (fun _ w hM => tableOf_any _ _ _ _ t.id w (hcut.below hM.below) (by omega))) ?_
            refine D_ 43 rfl rfl rfl _ (y_bin rfl rfl rfl (fun _ => b_geq)) ?_
            refine D_go (fun _ _ h => h) ?_
            refine T_cond rfl (fun h43 => ?_) (fun h43 => ?_)
            · try simp only [decide_eq_true_eq, decide_eq_false_iff_not, Bool.or_eq_true, Bool.or_eq_false_iff, Bool.and_eq_true, Bool.and_eq_false_iff, Bool.not_eq_true', Bool.not_eq_false', Bool.not_eq_true, Bool.not_eq_false, Bool.not_true, Bool.not_false, Int.not_lt, Int.not_le, not_or, not_and, Classical.not_not] at h43
              refine T_seq ?_
              refine T_region ?_
              refine S_ 6 rfl rfl rfl _ (y_assign rfl rfl) ?_
              refine S_go (fun _ _ h => h) ?_
              refine T_ret (fun a w hF hM => hRb a w (post1 rfl rfl (fun w hM => ?_) a w hF hM))
              exact ⟨by rw [allNo, modulesNo, fst_b h15 (fst_b h20 (if_neg (by omega))), hp2, hx2, tabsNo, if_neg (by simpa using h35), if_pos (by rw [← hbe]; exact hfi.1 (by omega))], hM.below⟩
            · try simp only [decide_eq_true_eq, decide_eq_false_iff_not, Bool.or_eq_true, Bool.or_eq_false_iff, Bool.and_eq_true, Bool.and_eq_false_iff, Bool.not_eq_true', Bool.not_eq_false', Bool.not_eq_true, Bool.not_eq_false, Bool.not_true, Bool.not_false, Int.not_lt, Int.not_le, not_or, not_and, Classical.not_not] at h43
              refine T_skip_go (fun _ _ h => h) ?_
              refine T_region ?_
              refine S_ 44 rfl rfl rfl _ (y_bin rfl rfl rfl (fun hg => b_add (by omega))) ?_
              refine S_ 27 rfl rfl rfl _ (y_move rfl rfl) ?_
              refine S_nil (nextK1 (kf := [(6, 6), (9, 11), (27, 44)]) (kl := [(6, 6), (9, 11), (27, 44)]) (i + 1) (by repeat (first | exact kf_nil | (apply kf_in; focus rfl) | (apply kf_out; focus rfl))) (by repeat (first | exact kl_nil | exact kl_rest (by assumption) rfl | (apply kl_in; focus rfl) | (apply kl_out; focus rfl))) ?_ ?_ ?_ ?_)
              · omega
              · exact ⟨by omega, by rw [hp2, hx2, tabsNo, if_neg (by simpa using h35), if_neg (fun hh => absurd (hfi.2 (by rw [hbe]; exact hh)) (by omega)), take_succ_at hx1, List.map_append]; rfl⟩
              · exact ⟨rfl, trivial⟩
              · exact trivial
        · try simp only [decide_eq_true_eq, decide_eq_false_iff_not, Bool.or_eq_true, Bool.or_eq_false_iff, Bool.and_eq_true, Bool.and_eq_false_iff, Bool.not_eq_true', Bool.not_eq_false', Bool.not_eq_true, Bool.not_eq_false, Bool.not_true, Bool.not_false, Int.not_lt, Int.not_le, not_or, not_and, Classical.not_not] at h28
          refine T_exit_go (fun _ _ h => h) ?_
          refine T_seq ?_
          refine T_region ?_
          refine S_ 6 rfl rfl rfl _ (y_assign rfl rfl) ?_
          refine S_go (fun _ _ h => h) ?_
          refine T_ret (fun a w hF hM => hRb a w (post1 rfl rfl (fun w hM => ?_) a w hF hM))
          exact ⟨by rw [allNo, modulesNo, fst_b h15 (fst_b h20 (if_neg (by omega))), hp2, ht.end (by omega)]; rfl, hM.below⟩
end Go.Proofs.YtofolhnecfkjkaaDoor
