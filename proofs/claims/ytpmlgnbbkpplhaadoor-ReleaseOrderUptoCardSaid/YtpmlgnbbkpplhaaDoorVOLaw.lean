/- The law ReleaseOrder walked. Conditions: those of the theorem. -/
import Derived.Test.YtpmlgnbbkpplhaaDoorVCmp
namespace Go.Proofs.YtpmlgnbbkpplhaaDoor
set_option linter.unusedSimpArgs false
set_option linter.unusedVariables false
set_option maxRecDepth 20000
open Go.RowKit Go.Eng
abbrev a100 : List UInt8 := [97, 45, 49, 46, 48, 46, 48]
theorem par100 : parE a100 = (⟨[97], 1, 0, 0, []⟩, 0) := by kernel_rfl
theorem awakeRel_any (w : World) : Calls Tryd.prog 10 #[] w fun e w' => e = .returned (.bool true) ∧ Below w.heap.size w w' := by
  refine enter_args (args := []) (F := _) Tryd.func10 rfl Tryd.ntmps10 rfl rfl ?_
  intro Rb hRb hRn
  refine T_seq ?_
  refine T_region ?_
  refine S_ 0 rfl rfl rfl _ (y_assign rfl rfl) ?_
  refine S_go (fun _ _ h => h) ?_
  refine T_seq ?_
  refine T_region ?_
  refine S_callOwn 4 4 rfl rfl rfl rfl rfl rfl rfl cf12 (fun A c => .tuple #[pvV ⟨[97], 1, 0, 0, []⟩ A c, .int .i64 0]) 9 1 (0) ([]) (fun w hM => by have h := Parse_any a100 w; rw [par100] at h; exact h) ?_
  intro A4 c4
  refine S_ 3 rfl rfl rfl _ (y_move rfl rfl) ?_
  refine S_ 5 rfl rfl rfl _ (y_extract rfl rfl rfl) ?_
  refine S_ 6 rfl rfl rfl _ (y_extract rfl rfl rfl) ?_
  refine S_alloc 1 1 rfl rfl rfl rfl z42 ?_
  intro b1
  refine S_store 1 rfl rfl rfl rfl rfl rfl sz42 rfl rfl ?_
  refine S_ 2 rfl rfl rfl _ (y_assign rfl rfl) ?_
  refine S_go (fun _ _ h => h) ?_
  refine T_seq ?_
  refine T_region ?_
  refine S_ 7 rfl rfl rfl _ (y_move rfl rfl) ?_
  refine S_ 8 rfl rfl rfl _ (y_bin rfl rfl rfl (fun _ => b_eql)) ?_
  refine S_ 9 rfl rfl rfl _ (y_move rfl rfl) ?_
  refine Sg_ 10 rfl rfl rfl rfl rfl rfl _ (y_fieldAddr rfl rfl fa42_1) ?_
  refine Sg_ 11 rfl rfl rfl rfl rfl rfl _ (y_load 1 rfl rfl rfl rfl Tryd.underlying3 rfl) ?_
  refine Sg_ 12 rfl rfl rfl rfl rfl rfl _ (y_bin rfl rfl rfl (fun _ => b_eql)) ?_
  refine S_ 13 rfl rfl rfl _ (y_and rfl rfl rfl) ?_
  refine S_ 0 rfl rfl rfl _ (y_assign rfl rfl) ?_
  refine S_go (fun _ _ h => h) ?_
  refine T_ret (fun a w hF hM => hRb a w (post1 rfl rfl (fun w hM => ?_) a w hF hM))
  exact ⟨rfl, hM.below⟩
structure VersOk (w : World) (l : Sl SVer) : Prop where
  ok : l.Ok SVer.enc 5 w
  q : l.q ≤ 1000000000
  n : ∀ v ∈ l.l, VerOk w v
set_option maxHeartbeats 3200000 in
theorem ReleaseOrder_any (l : Sl SVer) (w : World) (hl : VersOk w l) (hP : P10 w) :
    Calls Tryd.prog 4 #[.slice l.A l.q l.c] w fun e w' => e = .returned (.bool true) ∧ Below w.heap.size w w' := by
  have ht := hl.ok.t
  have hq := hl.q
  refine enter_args (args := [.slice l.A l.q l.c]) (F := _) Tryd.func4 rfl Tryd.ntmps4 rfl rfl ?_
  intro Rb hRb hRn
  refine T_seq ?_
  refine T_region ?_
  refine S_ 2 rfl rfl rfl _ (y_assign rfl rfl) ?_
  refine S_go (fun _ _ h => h) ?_
  refine T_seq ?_
  refine T_seq ?_
  refine T_region ?_
  refine S_ 20 rfl rfl rfl _ (y_call rfl rfl rfl cf10 (fun _ w _ => awakeRel_any w)) ?_
  refine S_ 21 rfl rfl rfl _ (y_not rfl rfl) ?_
  refine S_go (fun _ _ h => h) ?_
  refine T_cond rfl (fun h21 => ?_) (fun h21 => ?_)
  · skip
    cases h21
  · skip
    refine T_skip_go (fun _ _ h => h) ?_
    refine T_seq ?_
    refine T_region ?_
    refine S_nilSlice 3 (e := 42) (size := 5) ?_
    refine S_ 3 rfl rfl rfl _ (y_assign rfl rfl) ?_
    refine S_go (fun _ _ h => h) ?_
    refine T_seq ?_
    refine T_seq ?_
    refine T_region ?_
    refine S_ 22 rfl rfl rfl _ (y_move rfl rfl) ?_
    refine S_ 23 rfl rfl rfl _ (y_len_slice rfl rfl Tryd.underlying39) ?_
    refine S_ 24 rfl rfl rfl _ (y_move rfl rfl) ?_
    refine S_go (fun _ _ h => h) ?_
    refine T_block ?_
    refine T_loopK5 (kf := [(2, 3), (5, 8), (24, 52)]) (kl := [(2, 3), (5, 8), (24, 52)]) (fun (i : Nat) (gs : List SVer) (A : Option Addr) (c : Nat) (n : Nat) => [(24, true, .int .i64 (i : Int)), (3, true, .slice A n c)]) (fun (i : Nat) (gs : List SVer) (A : Option Addr) (c : Nat) (n : Nat) => [(3, .own 42 5 (.slice A n c) n (gs.flatMap SVer.enc))]) (fun (i : Nat) (gs : List SVer) (A : Option Addr) (c : Nat) (n : Nat) => i ≤ l.q ∧ gs.length = n ∧ n ≤ i ∧ ∀ v ∈ gs, VerOk w v ∧ VRight v.says ∧ (verT v.says).length ≤ 40) (fun (i : Nat) (gs : List SVer) (A : Option Addr) (c : Nat) (n : Nat) => l.q - i) 0 [] none 0 0 (by repeat (first | exact kf_nil | (apply kf_in; focus rfl) | (apply kf_out; focus rfl))) (by repeat (first | exact kl_nil | exact kl_rest (by assumption) rfl | (apply kl_in; focus rfl) | (apply kl_out; focus rfl))) ?_ ?_ ?_ ?_
    · exact ⟨by omega, rfl, by omega, fun v hv => by cases hv⟩
    · exact ⟨rfl, rfl, trivial⟩
    · exact ⟨rfl, trivial⟩
    rintro i gs A c n ⟨hp1, hp2, hp3, hp4⟩
    refine T_seq ?_
    refine T_region ?_
    refine S_ 25 rfl rfl rfl _ (y_bin rfl rfl rfl (fun _ => b_lss)) ?_
    refine S_go (fun _ _ h => h) ?_
    refine T_seq ?_
    refine T_cond rfl (fun h25 => ?_) (fun h25 => ?_)
    · try simp only [decide_eq_true_eq, decide_eq_false_iff_not, Bool.or_eq_true, Bool.or_eq_false_iff, Bool.and_eq_true, Bool.and_eq_false_iff, Bool.not_eq_true', Bool.not_eq_false', Bool.not_eq_true, Bool.not_eq_false, Bool.not_true, Bool.not_false, Int.not_lt, Int.not_le, not_or, not_and, Classical.not_not] at h25
      obtain ⟨x, hx1, hx2⟩ := ht.at (i := i) (by omega)
      have hxo := hl.n x (mem_at hx1)
      refine T_skip_go (fun _ _ h => h) ?_
      refine T_seq ?_
      refine T_block ?_
      refine T_seq ?_
      refine T_region ?_
      refine S_ 26 rfl rfl rfl _ (y_indexAddr rfl rfl rfl Tryd.underlying39 sz42 (fun hg => ht.isSome (by omega)) (fun _ => by omega)) ?_
      refine S_ 27 rfl rfl rfl _ (y_loadT rfl rfl ht (fun _ => rfl) (fun _ => hx1) Tryd.underlying42 rfl sz42) ?_
      refine S_alloc 5 5 rfl rfl rfl rfl z42 ?_
      intro b5
      refine S_store 5 rfl rfl rfl rfl rfl rfl sz42 rfl rfl ?_
      refine S_go (fun _ _ h => h) ?_
      refine T_seq ?_
      refine T_region ?_
      refine S_ 29 rfl rfl rfl _ (y_loadA 5 rfl rfl rfl Tryd.underlying42 rfl sz42) ?_
      refine S_ 30 rfl rfl rfl _ (y_call rfl rfl rfl cf11 (fun _ w hM => Text_any x w (hxo.below hM.below) (hP.below hM.below))) ?_
      refine S_ 28 rfl rfl rfl _ (y_move rfl rfl) ?_
      refine S_ 31 rfl rfl rfl _ (y_extract rfl rfl rfl) ?_
      refine S_ 32 rfl rfl rfl _ (y_extract rfl rfl rfl) ?_
      refine S_ 6 rfl rfl rfl _ (y_assign rfl rfl) ?_
      refine S_ 7 rfl rfl rfl _ (y_assign rfl rfl) ?_
      refine S_go (fun _ _ h => h) ?_
      refine T_seq ?_
      refine T_seq ?_
      refine T_region ?_
      refine S_ 33 rfl rfl rfl _ (y_move rfl rfl) ?_
      refine S_ 34 rfl rfl rfl _ (y_bin rfl rfl rfl (fun _ => b_neq)) ?_
      refine S_go (fun _ _ h => h) ?_
      refine T_cond rfl (fun h34 => ?_) (fun h34 => ?_)
      · try simp only [decide_eq_true_eq, decide_eq_false_iff_not, Bool.or_eq_true, Bool.or_eq_false_iff, Bool.and_eq_true, Bool.and_eq_false_iff, Bool.not_eq_true', Bool.not_eq_false', Bool.not_eq_true, Bool.not_eq_false, Bool.not_true, Bool.not_false, Int.not_lt, Int.not_le, not_or, not_and, Classical.not_not] at h34
        refine T_exit_go (fun _ _ h => h) ?_
        refine T_region ?_
        refine S_ 52 rfl rfl rfl _ (y_bin rfl rfl rfl (fun hg => b_add (by omega))) ?_
        refine S_ 24 rfl rfl rfl _ (y_move rfl rfl) ?_
        refine S_nil (nextK5 (kf := [(2, 3), (5, 8), (24, 52)]) (kl := [(2, 3), (5, 8), (24, 52)]) (i + 1) gs A c n (by repeat (first | exact kf_nil | (apply kf_in; focus rfl) | (apply kf_out; focus rfl))) (by repeat (first | exact kl_nil | exact kl_rest (by assumption) rfl | (apply kl_in; focus rfl) | (apply kl_out; focus rfl))) ?_ ?_ ?_ ?_)
        · omega
        · exact ⟨by omega, hp2, by omega, hp4⟩
        · exact ⟨rfl, rfl, trivial⟩
        · exact ⟨rfl, trivial⟩
      · try simp only [decide_eq_true_eq, decide_eq_false_iff_not, Bool.or_eq_true, Bool.or_eq_false_iff, Bool.and_eq_true, Bool.and_eq_false_iff, Bool.not_eq_true', Bool.not_eq_false', Bool.not_eq_true, Bool.not_eq_false, Bool.not_true, Bool.not_false, Int.not_lt, Int.not_le, not_or, not_and, Classical.not_not] at h34
        obtain ⟨hr1, hr2, hr3⟩ := txt_right (v := x.says) h34
        obtain ⟨ho1, ho2⟩ := of_verT hr1 hr2
        have hpe : parE (txtR x.says).1 = (x.says, 0) := by rw [hr3, parE, if_pos ho1, ho2]
        refine T_skip_go (fun _ _ h => h) ?_
        refine T_seq ?_
        refine T_region ?_
        refine S_ 36 rfl rfl rfl _ (y_move rfl rfl) ?_
        refine S_callOwn 37 37 rfl rfl rfl rfl rfl rfl rfl cf12 (fun A c => .tuple #[pvV (parE (txtR x.says).1).1 A c, .int .i64 (parE (txtR x.says).1).2]) 9 1 ((parE (txtR x.says).1).1.pre.length) ((parE (txtR x.says).1).1.pre.flatMap strE) (fun w hM => Parse_any (txtR x.says).1 w) ?_
        intro A37 c37
        refine S_ 35 rfl rfl rfl _ (y_move rfl rfl) ?_
        refine S_ 38 rfl rfl rfl _ (y_extract rfl rfl rfl) ?_
        refine S_ 39 rfl rfl rfl _ (y_extract rfl rfl rfl) ?_
        refine S_alloc 8 8 rfl rfl rfl rfl z42 ?_
        intro b8
        refine S_store 8 rfl rfl rfl rfl rfl rfl sz42 rfl rfl ?_
        refine S_ 7 rfl rfl rfl _ (y_assign rfl rfl) ?_
        refine S_go (fun _ _ h => h) ?_
        refine T_seq ?_
        refine T_seq ?_
        refine T_region ?_
        refine S_ 40 rfl rfl rfl _ (y_move rfl rfl) ?_
        refine S_ 41 rfl rfl rfl _ (y_bin rfl rfl rfl (fun _ => b_neq)) ?_
        refine S_ 42 rfl rfl rfl _ (y_move rfl rfl) ?_
        refine Sg_ 43 rfl rfl rfl rfl rfl rfl _ (y_loadA 5 rfl rfl rfl Tryd.underlying42 rfl sz42) ?_
        refine Sg_ 44 rfl rfl rfl rfl rfl rfl _ (y_loadA 8 rfl rfl rfl Tryd.underlying42 rfl sz42) ?_
        refine Sg_ 45 rfl rfl rfl rfl rfl rfl _ (y_call rfl rfl rfl cf13 (fun _ w hM => Compare_any x (svr (parE (txtR x.says).1).1 A37 c37) w (hxo.below hM.below) (svr_ok (parE_bound _) (owned_ok (enc := strE) hM rfl (i := 37) rfl)))) ?_
        refine Sg_ 46 rfl rfl rfl rfl rfl rfl _ (y_bin rfl rfl rfl (fun _ => b_neq)) ?_
        refine S_ 47 rfl rfl rfl _ (y_or rfl rfl rfl) ?_
        refine S_go (fun _ _ h => h) ?_
        refine T_cond rfl (fun h47 => ?_) (fun h47 => ?_)
        · skip
          rw [hpe] at h47
          simp [svr_says, hpe, cmp3_V.refl] at h47
        · skip
          refine T_skip_go (fun _ _ h => h) ?_
          refine T_region ?_
          refine S_ 48 rfl rfl rfl _ (y_move rfl rfl) ?_
          refine S_ 49 rfl rfl rfl _ (y_loadA 5 rfl rfl rfl Tryd.underlying42 rfl sz42) ?_
          refine S_buildSlice 50 50 rfl rfl rfl rfl rfl Tryd.underlying39 inf42 rfl (by decide) (by decide) rfl rfl (by decide) rfl (_) rfl ?_
          intro b50
          obtain ⟨i51, hi51, hz51, hs51, hy51⟩ := info_parts inf42
          refine S_append 51 3 50 rfl rfl rfl rfl rfl rfl rfl rfl Tryd.underlying39 hi51 hz51 hs51 hy51 rfl (by decide) (by decide) rfl ?_ ?_ (n + 1) ((gs ++ [x]).flatMap SVer.enc) ?_ ?_ ?_
          · (simp only [maxLen]; omega)
          · omega
          · rfl
          · simp [List.flatMap_append]; rfl
          intro A51 c51
          refine S_ 3 rfl rfl rfl _ (y_assign rfl rfl) ?_
          refine S_go (fun _ _ h => h) ?_
          refine T_region ?_
          refine S_ 52 rfl rfl rfl _ (y_bin rfl rfl rfl (fun hg => b_add (by omega))) ?_
          refine S_ 24 rfl rfl rfl _ (y_move rfl rfl) ?_
          refine S_nil (nextK5 (kf := [(2, 3), (5, 8), (24, 52)]) (kl := [(2, 3), (5, 8), (24, 52)]) (i + 1) (gs ++ [x]) A51 c51 (n + 1) (by repeat (first | exact kf_nil | (apply kf_in; focus rfl) | (apply kf_out; focus rfl))) (by repeat (first | exact kl_nil | exact kl_rest (by assumption) rfl | (apply kl_in; focus rfl) | (apply kl_out; focus rfl))) ?_ ?_ ?_ ?_)
          · omega
          · exact ⟨by omega, by rw [List.length_append, hp2]; rfl, by omega, fun v hv => by
              rcases List.mem_append.1 hv with h | h
              · exact hp4 v h
              · rw [List.mem_singleton.1 h]; exact ⟨hxo, hr1, hr2⟩⟩
          · exact ⟨rfl, rfl, trivial⟩
          · exact ⟨rfl, trivial⟩
    · try simp only [decide_eq_true_eq, decide_eq_false_iff_not, Bool.or_eq_true, Bool.or_eq_false_iff, Bool.and_eq_true, Bool.and_eq_false_iff, Bool.not_eq_true', Bool.not_eq_false', Bool.not_eq_true, Bool.not_eq_false, Bool.not_true, Bool.not_false, Int.not_lt, Int.not_le, not_or, not_and, Classical.not_not] at h25
      refine T_exit_go (fun _ _ h => h) ?_
      refine T_seq ?_
      refine T_seq ?_
      refine T_region ?_
      refine S_ 53 rfl rfl rfl _ (y_move rfl rfl) ?_
      refine S_ 54 rfl rfl rfl _ (y_len_slice rfl rfl Tryd.underlying39) ?_
      refine S_ 55 rfl rfl rfl _ (y_move rfl rfl) ?_
      refine S_go (fun _ _ h => h) ?_
      refine T_block ?_
      refine T_loopK1 (kf := [(2, 2), (10, 10), (12, 13), (15, 19), (55, 112)]) (kl := [(2, 2), (10, 10), (12, 13), (15, 19), (55, 112)]) (fun (j : Nat) => [(55, true, .int .i64 (j : Int))]) (fun (j : Nat) => []) (fun (j : Nat) => j ≤ n) (fun (j : Nat) => n - j) 0 (by repeat (first | exact kf_nil | (apply kf_in; focus rfl) | (apply kf_out; focus rfl))) (by repeat (first | exact kl_nil | exact kl_rest (by assumption) rfl | (apply kl_in; focus rfl) | (apply kl_out; focus rfl))) ?_ ?_ ?_ ?_
      · omega
      · exact ⟨rfl, trivial⟩
      · exact trivial
      rintro j hj
      refine T_seq ?_
      refine T_region ?_
      refine S_ 56 rfl rfl rfl _ (y_bin rfl rfl rfl (fun _ => b_lss)) ?_
      refine S_go (fun _ _ h => h) ?_
      refine T_seq ?_
      refine T_cond rfl (fun h56 => ?_) (fun h56 => ?_)
      · try simp only [decide_eq_true_eq, decide_eq_false_iff_not, Bool.or_eq_true, Bool.or_eq_false_iff, Bool.and_eq_true, Bool.and_eq_false_iff, Bool.not_eq_true', Bool.not_eq_false', Bool.not_eq_true, Bool.not_eq_false, Bool.not_true, Bool.not_false, Int.not_lt, Int.not_le, not_or, not_and, Classical.not_not] at h56
        obtain ⟨a, ha1⟩ : ∃ a, gs[j]? = some a := ⟨_, List.getElem?_eq_getElem (by omega)⟩
        have hga := hp4 a (mem_at ha1)
        refine T_skip_go (fun _ _ h => h) ?_
        refine T_seq ?_
        refine T_block ?_
        refine T_seq ?_
        refine T_region ?_
        refine S_ 57 rfl rfl rfl _ (y_indexOwn 3 rfl rfl rfl rfl Tryd.underlying39 sz42 (fun _ => by omega)) ?_
        refine S_ 58 rfl rfl rfl _ (y_loadO 3 rfl rfl rfl hp2 (fun _ => rfl) (fun _ => ha1) Tryd.underlying42 rfl sz42) ?_
        refine S_alloc 10 10 rfl rfl rfl rfl z42 ?_
        intro b10
        refine S_store 10 rfl rfl rfl rfl rfl rfl sz42 rfl rfl ?_
        refine S_go (fun _ _ h => h) ?_
        refine T_seq ?_
        refine T_region ?_
        refine S_ 59 rfl rfl rfl _ (y_move rfl rfl) ?_
        refine S_ 60 rfl rfl rfl _ (y_len_slice rfl rfl Tryd.underlying39) ?_
        refine S_ 61 rfl rfl rfl _ (y_move rfl rfl) ?_
        refine S_go (fun _ _ h => h) ?_
        refine T_block ?_
        refine T_loopK1 (kf := [(2, 2), (12, 13), (15, 19), (61, 111)]) (kl := [(2, 2), (12, 13), (15, 19), (61, 111)]) (fun (k : Nat) => [(61, true, .int .i64 (k : Int))]) (fun (k : Nat) => []) (fun (k : Nat) => k ≤ n) (fun (k : Nat) => n - k) 0 (by repeat (first | exact kf_nil | (apply kf_in; focus rfl) | (apply kf_out; focus rfl))) (by repeat (first | exact kl_nil | exact kl_rest (by assumption) rfl | (apply kl_in; focus rfl) | (apply kl_out; focus rfl))) ?_ ?_ ?_ ?_
        · omega
        · exact ⟨rfl, trivial⟩
        · exact trivial
        rintro k hk
        refine T_seq ?_
        refine T_region ?_
        refine S_ 62 rfl rfl rfl _ (y_bin rfl rfl rfl (fun _ => b_lss)) ?_
        refine S_go (fun _ _ h => h) ?_
        refine T_seq ?_
        refine T_cond rfl (fun h62 => ?_) (fun h62 => ?_)
        · try simp only [decide_eq_true_eq, decide_eq_false_iff_not, Bool.or_eq_true, Bool.or_eq_false_iff, Bool.and_eq_true, Bool.and_eq_false_iff, Bool.not_eq_true', Bool.not_eq_false', Bool.not_eq_true, Bool.not_eq_false, Bool.not_true, Bool.not_false, Int.not_lt, Int.not_le, not_or, not_and, Classical.not_not] at h62
          obtain ⟨b, hb1⟩ : ∃ b, gs[k]? = some b := ⟨_, List.getElem?_eq_getElem (by omega)⟩
          have hgb := hp4 b (mem_at hb1)
          have hba := cmpV_rng b.says a.says
          refine T_skip_go (fun _ _ h => h) ?_
          refine T_seq ?_
          refine T_block ?_
          refine T_seq ?_
          refine T_region ?_
          refine S_ 63 rfl rfl rfl _ (y_indexOwn 3 rfl rfl rfl rfl Tryd.underlying39 sz42 (fun _ => by omega)) ?_
          refine S_ 64 rfl rfl rfl _ (y_loadO 3 rfl rfl rfl hp2 (fun _ => rfl) (fun _ => hb1) Tryd.underlying42 rfl sz42) ?_
          refine S_alloc 12 12 rfl rfl rfl rfl z42 ?_
          intro b12
          refine S_store 12 rfl rfl rfl rfl rfl rfl sz42 rfl rfl ?_
          refine S_go (fun _ _ h => h) ?_
          refine T_seq ?_
          refine T_region ?_
          refine S_ 65 rfl rfl rfl _ (y_loadA 10 rfl rfl rfl Tryd.underlying42 rfl sz42) ?_
          refine S_ 66 rfl rfl rfl _ (y_loadA 12 rfl rfl rfl Tryd.underlying42 rfl sz42) ?_
          refine S_ 67 rfl rfl rfl _ (y_call rfl rfl rfl cf13 (fun _ w hM => Compare_any a b w (hga.1.below hM.below) (hgb.1.below hM.below))) ?_
          refine S_ 13 rfl rfl rfl _ (y_assign rfl rfl) ?_
          refine S_go (fun _ _ h => h) ?_
          refine T_seq ?_
          refine T_seq ?_
          refine T_region ?_
          refine S_ 68 rfl rfl rfl _ (y_move rfl rfl) ?_
          refine S_ 69 rfl rfl rfl _ (y_loadA 12 rfl rfl rfl Tryd.underlying42 rfl sz42) ?_
          refine S_ 70 rfl rfl rfl _ (y_loadA 10 rfl rfl rfl Tryd.underlying42 rfl sz42) ?_
          refine S_ 71 rfl rfl rfl _ (y_call rfl rfl rfl cf13 (fun _ w hM => Compare_any b a w (hgb.1.below hM.below) (hga.1.below hM.below))) ?_
          refine S_ 72 rfl rfl rfl _ (y_neg ((-(cmpV b.says a.says))) rfl rfl (fun hg => by rw [IntWalk.i64_in _ (by omega)]; omega)) ?_
          refine S_ 73 rfl rfl rfl _ (y_bin rfl rfl rfl (fun _ => b_neq)) ?_
          refine S_go (fun _ _ h => h) ?_
          refine T_cond rfl (fun h73 => ?_) (fun h73 => ?_)
          · skip
            have := cmp3_V.anti b.says a.says
            simp at h73
            omega
          · skip
            refine T_skip_go (fun _ _ h => h) ?_
            refine T_seq ?_
            refine T_seq ?_
            refine T_region ?_
            refine S_ 74 rfl rfl rfl _ (y_move rfl rfl) ?_
            refine S_ 75 rfl rfl rfl _ (y_len_slice rfl rfl Tryd.underlying39) ?_
            refine S_ 76 rfl rfl rfl _ (y_move rfl rfl) ?_
            refine S_go (fun _ _ h => h) ?_
            refine T_block ?_
            refine T_loopK1 (kf := [(2, 2), (15, 15), (76, 94)]) (kl := [(2, 2), (15, 15), (76, 94)]) (fun (m : Nat) => [(76, true, .int .i64 (m : Int))]) (fun (m : Nat) => []) (fun (m : Nat) => m ≤ n) (fun (m : Nat) => n - m) 0 (by repeat (first | exact kf_nil | (apply kf_in; focus rfl) | (apply kf_out; focus rfl))) (by repeat (first | exact kl_nil | exact kl_rest (by assumption) rfl | (apply kl_in; focus rfl) | (apply kl_out; focus rfl))) ?_ ?_ ?_ ?_
            · omega
            · exact ⟨rfl, trivial⟩
            · exact trivial
            rintro m hm
            refine T_seq ?_
            refine T_region ?_
            refine S_ 77 rfl rfl rfl _ (y_bin rfl rfl rfl (fun _ => b_lss)) ?_
            refine S_go (fun _ _ h => h) ?_
            refine T_seq ?_
            refine T_cond rfl (fun h77 => ?_) (fun h77 => ?_)
            · try simp only [decide_eq_true_eq, decide_eq_false_iff_not, Bool.or_eq_true, Bool.or_eq_false_iff, Bool.and_eq_true, Bool.and_eq_false_iff, Bool.not_eq_true', Bool.not_eq_false', Bool.not_eq_true, Bool.not_eq_false, Bool.not_true, Bool.not_false, Int.not_lt, Int.not_le, not_or, not_and, Classical.not_not] at h77
              obtain ⟨d, hd1⟩ : ∃ d, gs[m]? = some d := ⟨_, List.getElem?_eq_getElem (by omega)⟩
              have hgd := hp4 d (mem_at hd1)
              refine T_skip_go (fun _ _ h => h) ?_
              refine T_seq ?_
              refine T_block ?_
              refine T_seq ?_
              refine T_region ?_
              refine S_ 78 rfl rfl rfl _ (y_indexOwn 3 rfl rfl rfl rfl Tryd.underlying39 sz42 (fun _ => by omega)) ?_
              refine S_ 79 rfl rfl rfl _ (y_loadO 3 rfl rfl rfl hp2 (fun _ => rfl) (fun _ => hd1) Tryd.underlying42 rfl sz42) ?_
              refine S_alloc 15 15 rfl rfl rfl rfl z42 ?_
              intro b15
              refine S_store 15 rfl rfl rfl rfl rfl rfl sz42 rfl rfl ?_
              refine S_go (fun _ _ h => h) ?_
              refine T_seq ?_
              refine T_region ?_
              refine S_ 80 rfl rfl rfl _ (y_move rfl rfl) ?_
              refine S_ 81 rfl rfl rfl _ (y_bin rfl rfl rfl (fun _ => b_leq)) ?_
              refine S_ 82 rfl rfl rfl _ (y_move rfl rfl) ?_
              refine Sg_ 83 rfl rfl rfl rfl rfl rfl _ (y_loadA 12 rfl rfl rfl Tryd.underlying42 rfl sz42) ?_
              refine Sg_ 84 rfl rfl rfl rfl rfl rfl _ (y_loadA 15 rfl rfl rfl Tryd.underlying42 rfl sz42) ?_
              refine Sg_ 85 rfl rfl rfl rfl rfl rfl _ (y_call rfl rfl rfl cf13 (fun _ w hM => Compare_any b d w (hgb.1.below hM.below) (hgd.1.below hM.below))) ?_
              refine Sg_ 86 rfl rfl rfl rfl rfl rfl _ (y_bin rfl rfl rfl (fun _ => b_leq)) ?_
              refine S_ 87 rfl rfl rfl _ (y_and rfl rfl rfl) ?_
              refine S_ 88 rfl rfl rfl _ (y_move rfl rfl) ?_
              refine Sg_ 89 rfl rfl rfl rfl rfl rfl _ (y_loadA 10 rfl rfl rfl Tryd.underlying42 rfl sz42) ?_
              refine Sg_ 90 rfl rfl rfl rfl rfl rfl _ (y_loadA 15 rfl rfl rfl Tryd.underlying42 rfl sz42) ?_
              refine Sg_ 91 rfl rfl rfl rfl rfl rfl _ (y_call rfl rfl rfl cf13 (fun _ w hM => Compare_any a d w (hga.1.below hM.below) (hgd.1.below hM.below))) ?_
              refine Sg_ 92 rfl rfl rfl rfl rfl rfl _ (y_bin rfl rfl rfl (fun _ => b_gtr)) ?_
              refine S_ 93 rfl rfl rfl _ (y_and rfl rfl rfl) ?_
              refine S_go (fun _ _ h => h) ?_
              refine T_cond rfl (fun h93 => ?_) (fun h93 => ?_)
              · skip
                simp only [Bool.and_eq_true, decide_eq_true_eq] at h93
                have := cmp3_V.tr _ _ _ h93.1.1 h93.1.2
                omega
              · skip
                refine T_skip_go (fun _ _ h => h) ?_
                refine T_region ?_
                refine S_ 94 rfl rfl rfl _ (y_bin rfl rfl rfl (fun hg => b_add (by omega))) ?_
                refine S_ 76 rfl rfl rfl _ (y_move rfl rfl) ?_
                refine S_nil (nextK1 (kf := [(2, 2), (15, 15), (76, 94)]) (kl := [(2, 2), (15, 15), (76, 94)]) (m + 1) (by repeat (first | exact kf_nil | (apply kf_in; focus rfl) | (apply kf_out; focus rfl))) (by repeat (first | exact kl_nil | exact kl_rest (by assumption) rfl | (apply kl_in; focus rfl) | (apply kl_out; focus rfl))) ?_ ?_ ?_ ?_)
                · omega
                · omega
                · exact ⟨rfl, trivial⟩
                · exact trivial
            · try simp only [decide_eq_true_eq, decide_eq_false_iff_not, Bool.or_eq_true, Bool.or_eq_false_iff, Bool.and_eq_true, Bool.and_eq_false_iff, Bool.not_eq_true', Bool.not_eq_false', Bool.not_eq_true, Bool.not_eq_false, Bool.not_true, Bool.not_false, Int.not_lt, Int.not_le, not_or, not_and, Classical.not_not] at h77
              refine T_exit_go (fun _ _ h => h) ?_
              refine T_seq ?_
              refine T_region ?_
              refine S_ 96 rfl rfl rfl _ (y_loadA 10 rfl rfl rfl Tryd.underlying42 rfl sz42) ?_
              refine S_ 97 rfl rfl rfl _ (y_call rfl rfl rfl cf11 (fun _ w hM => Text_any a w (hga.1.below hM.below) (hP.below hM.below))) ?_
              refine S_ 95 rfl rfl rfl _ (y_move rfl rfl) ?_
              refine S_ 98 rfl rfl rfl _ (y_extract rfl rfl rfl) ?_
              refine S_ 99 rfl rfl rfl _ (y_extract rfl rfl rfl) ?_
              refine S_ 16 rfl rfl rfl _ (y_assign rfl rfl) ?_
              refine S_ 17 rfl rfl rfl _ (y_assign rfl rfl) ?_
              refine S_go (fun _ _ h => h) ?_
              refine T_seq ?_
              refine T_region ?_
              refine S_ 101 rfl rfl rfl _ (y_loadA 12 rfl rfl rfl Tryd.underlying42 rfl sz42) ?_
              refine S_ 102 rfl rfl rfl _ (y_call rfl rfl rfl cf11 (fun _ w hM => Text_any b w (hgb.1.below hM.below) (hP.below hM.below))) ?_
              refine S_ 100 rfl rfl rfl _ (y_move rfl rfl) ?_
              refine S_ 103 rfl rfl rfl _ (y_extract rfl rfl rfl) ?_
              refine S_ 104 rfl rfl rfl _ (y_extract rfl rfl rfl) ?_
              refine S_ 18 rfl rfl rfl _ (y_assign rfl rfl) ?_
              refine S_ 19 rfl rfl rfl _ (y_assign rfl rfl) ?_
              refine S_go (fun _ _ h => h) ?_
              refine T_seq ?_
              refine T_region ?_
              refine S_ 105 rfl rfl rfl _ (y_move rfl rfl) ?_
              refine S_ 106 rfl rfl rfl _ (y_bin rfl rfl rfl (fun _ => b_eql)) ?_
              refine S_ 107 rfl rfl rfl _ (y_move rfl rfl) ?_
              refine S_ 108 rfl rfl rfl _ (y_move rfl rfl) ?_
              refine S_ 109 rfl rfl rfl _ (y_bin rfl rfl rfl (fun _ => b_eqls)) ?_
              refine S_ 110 rfl rfl rfl _ (y_bin rfl rfl rfl (fun _ => b_neqb Tryd.underlying4)) ?_
              refine S_go (fun _ _ h => h) ?_
              refine T_cond rfl (fun h110 => ?_) (fun h110 => ?_)
              · skip
                rw [(right_txt hga.2.1 hga.2.2), (right_txt hgb.2.1 hgb.2.2)] at h110
                have hti := tie_iff hga.2.1 hgb.2.1 hga.2.2 hgb.2.2
                by_cases hz : cmpV a.says b.says = 0
                · simp [hz, hti.1 hz] at h110
                · have := fun e => hz (hti.2 e)
                  simp [hz] at h110
                  exact (this h110).elim
              · skip
                refine T_skip_go (fun _ _ h => h) ?_
                refine T_region ?_
                refine S_ 111 rfl rfl rfl _ (y_bin rfl rfl rfl (fun hg => b_add (by omega))) ?_
                refine S_ 61 rfl rfl rfl _ (y_move rfl rfl) ?_
                refine S_nil (nextK1 (kf := [(2, 2), (12, 13), (15, 19), (61, 111)]) (kl := [(2, 2), (12, 13), (15, 19), (61, 111)]) (k + 1) (by repeat (first | exact kf_nil | (apply kf_in; focus rfl) | (apply kf_out; focus rfl))) (by repeat (first | exact kl_nil | exact kl_rest (by assumption) rfl | (apply kl_in; focus rfl) | (apply kl_out; focus rfl))) ?_ ?_ ?_ ?_)
                · omega
                · omega
                · exact ⟨rfl, trivial⟩
                · exact trivial
        · try simp only [decide_eq_true_eq, decide_eq_false_iff_not, Bool.or_eq_true, Bool.or_eq_false_iff, Bool.and_eq_true, Bool.and_eq_false_iff, Bool.not_eq_true', Bool.not_eq_false', Bool.not_eq_true, Bool.not_eq_false, Bool.not_true, Bool.not_false, Int.not_lt, Int.not_le, not_or, not_and, Classical.not_not] at h62
          refine T_exit_go (fun _ _ h => h) ?_
          refine T_region ?_
          refine S_ 112 rfl rfl rfl _ (y_bin rfl rfl rfl (fun hg => b_add (by omega))) ?_
          refine S_ 55 rfl rfl rfl _ (y_move rfl rfl) ?_
          refine S_nil (nextK1 (kf := [(2, 2), (10, 10), (12, 13), (15, 19), (55, 112)]) (kl := [(2, 2), (10, 10), (12, 13), (15, 19), (55, 112)]) (j + 1) (by repeat (first | exact kf_nil | (apply kf_in; focus rfl) | (apply kf_out; focus rfl))) (by repeat (first | exact kl_nil | exact kl_rest (by assumption) rfl | (apply kl_in; focus rfl) | (apply kl_out; focus rfl))) ?_ ?_ ?_ ?_)
          · omega
          · omega
          · exact ⟨rfl, trivial⟩
          · exact trivial
      · try simp only [decide_eq_true_eq, decide_eq_false_iff_not, Bool.or_eq_true, Bool.or_eq_false_iff, Bool.and_eq_true, Bool.and_eq_false_iff, Bool.not_eq_true', Bool.not_eq_false', Bool.not_eq_true, Bool.not_eq_false, Bool.not_true, Bool.not_false, Int.not_lt, Int.not_le, not_or, not_and, Classical.not_not] at h56
        refine T_exit_go (fun _ _ h => h) ?_
        refine T_seq ?_
        refine T_region ?_
        refine S_ 2 rfl rfl rfl _ (y_assign rfl rfl) ?_
        refine S_go (fun _ _ h => h) ?_
        refine T_ret (fun a w hF hM => hRb a w (post1 rfl rfl (fun w hM => ?_) a w hF hM))
        exact ⟨rfl, hM.below⟩
end Go.Proofs.YtpmlgnbbkpplhaaDoor
