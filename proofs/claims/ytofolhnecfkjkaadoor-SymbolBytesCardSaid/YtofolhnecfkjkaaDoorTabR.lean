/- The reference's TableRead. Conditions: those of each theorem. -/
import Derived.Test.YtofolhnecfkjkaaDoorTkr
import Derived.Test.YtofolhnecfkjkaaDoorRead
import Derived.Test.YtofolhnecfkjkaaDoorFlt
namespace Go.Proofs.YtofolhnecfkjkaaDoor
set_option linter.unusedSimpArgs false
set_option linter.unusedVariables false
set_option maxRecDepth 20000
open Go.RowKit Go.Eng
theorem read_bad {s x s1 : List UInt8} {ok1 : Bool} {p : PT} (h1 : PRes (tk 4) s true x s1 ok1) (hx : x ≠ magic) : RdOk s p false := by
  have h := read_end (p := p) (ok7 := false) (s7 := []) h1 (by rw [decide_eq_false hx, Bool.false_and]; exact pres_off)
  simpa using h
theorem read_fin {s s1 s7 : List UInt8} {ok1 ok7 : Bool} {p : PT} (h1 : PRes (tk 4) s true magic s1 ok1) (h2 : PRes pTab s1 ok1 p s7 ok7) : RdOk s p (ok7 && decide (s7 = [])) :=
  read_end h1 (by rw [decide_eq_true rfl, Bool.true_and]; exact h2)
theorem fin_t {ok : Bool} {s : List UInt8} (h : (!ok || !decide (s = [])) = true) : (ok && decide (s = [])) = false := by
  cases ok with
  | false => rfl
  | true => simp at h; simp [h]
theorem fin_f {ok : Bool} {s : List UInt8} (h : (!ok || !decide (s = [])) = false) : (ok && decide (s = [])) = true := by
  cases ok with
  | false => cases h
  | true => simp at h; simp [h]
theorem TableRead_any {w0 : World} {K : HL} (hK : FromK K) (s : List UInt8) (w : World) (hM0 : Mem w0 ([] ++ K) w) :
    Calls Tryd.prog 25 #[str s] w fun e w' => ∃ o : OT, e = .returned (.tuple #[o.tab.val, .int .i64 (readNo s)]) ∧ (o.tab.pl = readP s ∧ o.small) ∧ Mem w0 ([(908, rF o.fA o.fc o.fl), (909, rU o.uA o.uc o.ul), (910, rR o.rA o.rc o.rl), (911, rC o.cA o.cc o.cl)] ++ K) w' := by
  refine enterM_args (args := [str s]) (F := _) hM0 Tryd.func25 rfl Tryd.ntmps25 rfl rfl ?_
  intro Rb hRb hRn
  refine T_seq ?_
  refine T_region ?_
  refine S_alloc 2 2 rfl rfl rfl rfl z27 ?_
  intro b2
  refine S_ 3 rfl rfl rfl _ (y_assign rfl rfl) ?_
  refine S_go (fun _ _ h => h) ?_
  refine T_seq ?_
  refine T_seq ?_
  refine T_region ?_
  refine S_ 16 rfl rfl rfl _ (y_move rfl rfl) ?_
  refine S_ 17 rfl rfl rfl _ (y_len_str rfl rfl Tryd.underlying9) ?_
  refine S_ 18 rfl rfl rfl _ (y_bin rfl rfl rfl (fun _ => b_gtr)) ?_
  refine S_go (fun _ _ h => h) ?_
  refine T_cond rfl (fun h18 => ?_) (fun h18 => ?_)
  · try simp only [decide_eq_true_eq, decide_eq_false_iff_not, Bool.or_eq_true, Bool.or_eq_false_iff, Bool.and_eq_true, Bool.and_eq_false_iff, Bool.not_eq_true', Bool.not_eq_false', Bool.not_eq_true, Bool.not_eq_false, Bool.not_true, Bool.not_false, Int.not_lt, Int.not_le, not_or, not_and, Classical.not_not] at h18
    refine T_seq ?_
    refine T_region ?_
    refine S_ 19 rfl rfl rfl _ (y_build (zv := .agg #[.string ⟨#[]⟩, .int .i64 0, .slice none 0 0, .slice none 0 0, .slice none 0 0, .slice none 0 0]) (pl := [(0, 1), (1, 1), (2, 1), (3, 1), (4, 1), (5, 1)]) (out := [.string ⟨#[]⟩, .int .i64 0, .slice none 0 0, .slice none 0 0, .slice none 0 0, .slice none 0 0]) rfl rfl Tryd.underlying27 z27 (by kernel_rfl) rfl) ?_
    refine S_store 2 rfl rfl rfl rfl rfl rfl sz27 rfl rfl ?_
    refine S_ 3 rfl rfl rfl _ (y_assign rfl rfl) ?_
    refine S_go (fun _ _ h => h) ?_
    refine T_ret (fun a w hF hM => hRb a w (post_cell 2 rfl rfl rfl rfl Tryd.underlying27 rfl (by exact sz27) (fun w hM => ?_) a w hF hM))
    obtain ⟨e1, e2⟩ := read_big (s := s) (by omega)
    exact ⟨OT0, by rw [e1]; rfl, ⟨e2.symm, OT0.sm⟩, Mem.nil4 (hM.keep (ks := [(0, 999)]) (by repeat (first | exact kl_rest (by assumption) rfl | (apply kl_in; focus rfl))) _ trivial : Mem w0 ([] ++ K) w)⟩
  · try simp only [decide_eq_true_eq, decide_eq_false_iff_not, Bool.or_eq_true, Bool.or_eq_false_iff, Bool.and_eq_true, Bool.and_eq_false_iff, Bool.not_eq_true', Bool.not_eq_false', Bool.not_eq_true, Bool.not_eq_false, Bool.not_true, Bool.not_false, Int.not_lt, Int.not_le, not_or, not_and, Classical.not_not] at h18
    refine T_skip_go (fun _ _ h => h) ?_
    refine T_seq ?_
    refine T_region ?_
    refine S_ 20 rfl rfl rfl _ (y_move rfl rfl) ?_
    refine S_ 21 rfl rfl rfl _ (y_build (zv := .agg #[.string ⟨#[]⟩, .bool false]) (pl := [(0, 1), (1, 1)]) (out := [_, .bool false]) rfl rfl Tryd.underlying118 z118 (by kernel_rfl) rfl) ?_
    refine S_box 22 22 rfl rfl rfl rfl rfl ?_
    intro b22
    refine S_ 4 rfl rfl rfl _ (y_assign rfl rfl) ?_
    refine S_go (fun _ _ h => h) ?_
    refine T_seq ?_
    refine T_seq ?_
    refine T_region ?_
    refine S_ 23 rfl rfl rfl _ (y_move rfl rfl) ?_
    refine S_callM 24 [(901, 22)] (X := List UInt8 × List UInt8 × Bool) rfl rfl rfl rfl rfl rfl rfl cf70 rfl (fun z => str z.1) (fun z => PRes (tk (4)) (s) (true) z.1 z.2.1 z.2.2 ∧ z.1.length ≤ (s).length ∧ z.2.1.length ≤ (s).length) (fun z => [(901, tkI b22 z.2.1 z.2.2)]) (fun _ => rfl) (fun _ => rfl) (fun K1 hK1 w hM => tkTake_any hK1 b22 (4) (s) (true) w hM) ?_
    rintro ⟨x4, s1, ok1⟩ h1
    try dsimp only at h1
    refine S_ 25 rfl rfl rfl _ (y_bin rfl rfl rfl (fun _ => b_neqs)) ?_
    refine S_go (fun _ _ h => h) ?_
    refine T_cond rfl (fun h25 => ?_) (fun h25 => ?_)
    · try simp only [decide_eq_true_eq, decide_eq_false_iff_not, Bool.or_eq_true, Bool.or_eq_false_iff, Bool.and_eq_true, Bool.and_eq_false_iff, Bool.not_eq_true', Bool.not_eq_false', Bool.not_eq_true, Bool.not_eq_false, Bool.not_true, Bool.not_false, Int.not_lt, Int.not_le, not_or, not_and, Classical.not_not] at h25
      refine T_seq ?_
      refine T_region ?_
      refine S_ 26 rfl rfl rfl _ (y_build (zv := .agg #[.string ⟨#[]⟩, .int .i64 0, .slice none 0 0, .slice none 0 0, .slice none 0 0, .slice none 0 0]) (pl := [(0, 1), (1, 1), (2, 1), (3, 1), (4, 1), (5, 1)]) (out := [.string ⟨#[]⟩, .int .i64 0, .slice none 0 0, .slice none 0 0, .slice none 0 0, .slice none 0 0]) rfl rfl Tryd.underlying27 z27 (by kernel_rfl) rfl) ?_
      refine S_store 2 rfl rfl rfl rfl rfl rfl sz27 rfl rfl ?_
      refine S_ 3 rfl rfl rfl _ (y_assign rfl rfl) ?_
      refine S_go (fun _ _ h => h) ?_
      refine T_ret (fun a w hF hM => hRb a w (post_cell 2 rfl rfl rfl rfl Tryd.underlying27 rfl (by exact sz27) (fun w hM => ?_) a w hF hM))
      obtain ⟨e1, e2⟩ := read_none (p := PT0) (by omega) (read_bad h1.1 h25)
      exact ⟨OT0, by rw [e1]; rfl, ⟨e2.symm, OT0.sm⟩, Mem.nil4 (hM.keep (ks := [(0, 999)]) (by repeat (first | exact kl_rest (by assumption) rfl | (apply kl_in; focus rfl))) _ trivial : Mem w0 ([] ++ K) w)⟩
    · try simp only [decide_eq_true_eq, decide_eq_false_iff_not, Bool.or_eq_true, Bool.or_eq_false_iff, Bool.and_eq_true, Bool.and_eq_false_iff, Bool.not_eq_true', Bool.not_eq_false', Bool.not_eq_true, Bool.not_eq_false, Bool.not_true, Bool.not_false, Int.not_lt, Int.not_le, not_or, not_and, Classical.not_not] at h25
      have hx4 : x4 = magic := h25
      subst hx4
      refine T_skip_go (fun _ _ h => h) ?_
      refine T_seq ?_
      refine T_region ?_
      refine S_ 27 rfl rfl rfl _ (y_move rfl rfl) ?_
      refine S_callM 28 [(901, 22)] (X := List UInt8 × List UInt8 × Bool) rfl rfl rfl rfl rfl rfl rfl cf70 rfl (fun z => str z.1) (fun z => PRes (tk (16)) (s1) (ok1) z.1 z.2.1 z.2.2 ∧ z.1.length ≤ (s1).length ∧ z.2.1.length ≤ (s1).length) (fun z => [(901, tkI b22 z.2.1 z.2.2)]) (fun _ => rfl) (fun _ => rfl) (fun K1 hK1 w hM => tkTake_any hK1 b22 (16) (s1) (ok1) w hM) ?_
      rintro ⟨id, s2, ok2⟩ h2
      try dsimp only at h2
      refine S_ 29 rfl rfl rfl _ (y_build (zv := .agg #[.string ⟨#[]⟩, .int .i64 0, .slice none 0 0, .slice none 0 0, .slice none 0 0, .slice none 0 0]) (pl := [(0, 1), (1, 1), (2, 1), (3, 1), (4, 1), (5, 1)]) (out := [_, .int .i64 0, .slice none 0 0, .slice none 0 0, .slice none 0 0, .slice none 0 0]) rfl rfl Tryd.underlying27 z27 (by kernel_rfl) rfl) ?_
      refine S_alloc 5 5 rfl rfl rfl rfl z27 ?_
      intro b5
      refine S_nilSlice 908 (e := 9) (size := 1) ?_
      refine S_nilSlice 909 (e := 80) (size := 3) ?_
      refine S_nilSlice 910 (e := 98) (size := 3) ?_
      refine S_nilSlice 911 (e := 110) (size := 5) ?_
      refine S_store 5 rfl rfl rfl rfl rfl rfl sz27 rfl rfl ?_
      refine S_go (fun _ _ h => h) ?_
      refine T_seq ?_
      refine T_region ?_
      refine S_ 30 rfl rfl rfl _ (y_move rfl rfl) ?_
      refine S_callM 31 [(901, 22)] (X := Nat × List UInt8 × Bool) rfl rfl rfl rfl rfl rfl rfl cf71 rfl (fun z => .int .i64 (z.1 : Int)) (fun z => PRes nm (s2) (ok2) z.1 z.2.1 z.2.2 ∧ z.2.1.length ≤ (s2).length ∧ z.1 ≤ 281474976710656) (fun z => [(901, tkI b22 z.2.1 z.2.2)]) (fun _ => rfl) (fun _ => rfl) (fun K1 hK1 w hM => tkNum_any hK1 b22 (s2) (ok2) w hM) ?_
      rintro ⟨n, s3, ok3⟩ h3
      try dsimp only at h3
      refine S_ 32 rfl rfl rfl _ (y_fieldAddr rfl rfl fa27_1) ?_
      refine S_store 5 rfl rfl rfl rfl rfl rfl sz3 rfl rfl ?_
      refine S_go (fun _ _ h => h) ?_
      refine T_seq ?_
      refine T_seq ?_
      refine T_region ?_
      refine S_ 33 rfl rfl rfl _ (y_move rfl rfl) ?_
      refine S_callM 34 [(901, 22)] (X := Nat × List UInt8 × Bool) rfl rfl rfl rfl rfl rfl rfl cf71 rfl (fun z => .int .i64 (z.1 : Int)) (fun z => PRes nm (s3) (ok3) z.1 z.2.1 z.2.2 ∧ z.2.1.length ≤ (s3).length ∧ z.1 ≤ 281474976710656) (fun z => [(901, tkI b22 z.2.1 z.2.2)]) (fun _ => rfl) (fun _ => rfl) (fun K1 hK1 w hM => tkNum_any hK1 b22 (s3) (ok3) w hM) ?_
      rintro ⟨N1, s4, ok4⟩ h4
      try dsimp only at h4
      refine S_ 6 rfl rfl rfl _ (y_assign rfl rfl) ?_
      refine S_go (fun _ _ h => h) ?_
      refine T_block ?_
      refine T_loopK6 (kf := [(6, 6), (35, 54)]) (kl := [(5, 6), (22, 22), (35, 54), (908, 908)]) (fun (m : Nat) (l : List (List UInt8)) (t : List UInt8) (ok : Bool) (A : Option Addr) (c : Nat) => [(6, true, .int .i64 (m : Int))]) (fun (m : Nat) (l : List (List UInt8)) (t : List UInt8) (ok : Bool) (A : Option Addr) (c : Nat) => [(22, tkI b22 t ok), (5, .blk b5 (IsBox [str id, .int .i64 (n : Int), .slice A l.length c, .slice none 0 0, .slice none 0 0, .slice none 0 0] 27)), (908, rF A c l)]) (fun (m : Nat) (l : List (List UInt8)) (t : List UInt8) (ok : Bool) (A : Option Addr) (c : Nat) => m ≤ 281474976710656 ∧ IterInv oneF N1 [] s4 ok4 m l t ok ∧ (ok = true → l.length + t.length ≤ 1000000) ∧ (l.length ≤ 1000001 ∧ ∀ x ∈ l, x.length ≤ 1000000) ∧ t.length ≤ s.length) (fun (m : Nat) (l : List (List UInt8)) (t : List UInt8) (ok : Bool) (A : Option Addr) (c : Nat) => m) N1 [] s4 ok4 none 0 (by repeat (first | exact kf_nil | (apply kf_in; focus rfl) | (apply kf_out; focus rfl))) (by repeat (first | exact kl_nil | exact kl_rest (by assumption) rfl | (apply kl_in; focus rfl) | (apply kl_out; focus rfl))) ?_ ?_ ?_ ?_
      · exact ⟨h4.2.2, IterInv.start, fun _ => by show 0 + s4.length ≤ 1000000; omega, ⟨by simp, by simp⟩, by omega⟩
      · exact ⟨rfl, trivial⟩
      · exact ⟨rfl, rfl, rfl, trivial⟩
      rintro m l t ok A c ⟨hp1, hp2, hp3, hp4, hp5⟩
      refine T_seq ?_
      refine T_seq ?_
      refine T_region ?_
      refine S_ 35 rfl rfl rfl _ (y_move rfl rfl) ?_
      refine S_ 36 rfl rfl rfl _ (y_bin rfl rfl rfl (fun _ => b_gtr)) ?_
      refine S_ 37 rfl rfl rfl _ (y_move rfl rfl) ?_
      refine Sg_ 38 rfl rfl rfl rfl rfl rfl _ (y_move rfl rfl) ?_
      refine Sg_ 39 rfl rfl rfl rfl rfl rfl _ (y_nilCheck rfl rfl) ?_
      refine Sg_ 40 rfl rfl rfl rfl rfl rfl _ (y_fieldAddr rfl rfl fa118_1) ?_
      refine Sg_ 41 rfl rfl rfl rfl rfl rfl _ (y_load 22 rfl rfl rfl rfl Tryd.underlying4 rfl) ?_
      refine Sg_ 42 rfl rfl rfl rfl rfl rfl _ (y_as (v' := .bool ok) (by rw [Bool.not_not]) (y_not rfl rfl)) ?_
      refine S_ 43 rfl rfl rfl _ (y_and rfl rfl rfl) ?_
      refine S_go (fun _ _ h => h) ?_
      refine T_cond rfl (fun h43 => ?_) (fun h43 => ?_)
      · skip
        obtain ⟨hok, hm⟩ := go_list h43
        have hb := hp3 hok
        refine T_skip_go (fun _ _ h => h) ?_
        refine T_seq ?_
        refine T_block ?_
        refine T_perm [0, 1, 2, 3, 4, 5, 6, 7, 8, 9] [true, true, true, true, false, false, false, false, true, false] [0, 1, 0, 0, 8, 28, 60, 127, 255, 511] [(1, [5])] (by kernel_rfl) (by kernel_rfl) (by kernel_rfl) rfl (by kernel_rfl) ?_
        refine Rf_ 0 46 rfl rfl rfl rfl rfl _ trivial (Y.z (y_fieldAddr rfl rfl fa27_2) rfl) ?_
        refine Rf_ 1 47 rfl rfl rfl rfl rfl _ ⟨rfl, trivial⟩ (Y.z (y_load 5 rfl rfl rfl rfl Tryd.underlying22 rfl) rfl) ?_
        refine Rf_ 2 48 rfl rfl rfl rfl rfl _ trivial (Y.z (y_move rfl rfl) rfl) ?_
        refine Rf_ 3 49 rfl rfl rfl rfl rfl _ trivial (Y.z (y_move rfl rfl) rfl) ?_
        refine R_chain 4 rfl rfl ?_
        refine S_callM 50 [(901, 22)] (X := Nat × List UInt8 × Bool) rfl rfl rfl rfl rfl rfl rfl cf71 rfl (fun z => .int .i64 (z.1 : Int)) (fun z => PRes nm (t) (ok) z.1 z.2.1 z.2.2 ∧ z.2.1.length ≤ (t).length ∧ z.1 ≤ 281474976710656) (fun z => [(901, tkI b22 z.2.1 z.2.2)]) (fun _ => rfl) (fun _ => rfl) (fun K1 hK1 w hM => tkNum_any hK1 b22 (t) (ok) w hM) ?_
        rintro ⟨k1, t1, o1⟩ g1
        try dsimp only at g1
        refine R_next ⟨.inr ⟨rfl, trivial⟩, trivial⟩ ?_
        refine R_chain 5 rfl rfl ?_
        refine S_callM 51 [(901, 22)] (X := List UInt8 × List UInt8 × Bool) rfl rfl rfl rfl rfl rfl rfl cf70 rfl (fun z => str z.1) (fun z => PRes (tk (k1)) (t1) (o1) z.1 z.2.1 z.2.2 ∧ z.1.length ≤ (t1).length ∧ z.2.1.length ≤ (t1).length) (fun z => [(901, tkI b22 z.2.1 z.2.2)]) (fun _ => rfl) (fun _ => rfl) (fun K1 hK1 w hM => tkTake_any hK1 b22 (k1) (t1) (o1) w hM) ?_
        rintro ⟨x, t2, o2⟩ g2
        try dsimp only at g2
        refine R_next ⟨.inr ⟨rfl, trivial⟩, trivial⟩ ?_
        refine R_chain 6 rfl rfl ?_
        refine S_buildSlice 52 52 rfl rfl rfl rfl rfl Tryd.underlying22 inf9 rfl (by decide) (by decide) rfl rfl (by decide) rfl (_) rfl ?_
        intro b52
        refine R_next ⟨.inr ⟨rfl, trivial⟩, trivial⟩ ?_
        refine R_chain 7 rfl rfl ?_
        obtain ⟨i53, hi53, hz53, hs53, hy53⟩ := info_parts inf9
        refine S_append 53 908 52 rfl rfl rfl rfl rfl rfl rfl rfl Tryd.underlying22 hi53 hz53 hs53 hy53 rfl (by decide) (by decide) rfl ?_ ?_ ((l ++ [x]).length) ((l ++ [x]).flatMap strEnc) ?_ ?_ ?_
        · (simp only [maxLen]; omega)
        · omega
        · simp
        · simp [List.flatMap_append, strEnc]; rfl
        intro A53 c53
        refine R_next ⟨.inl rfl, trivial⟩ ?_
        refine Rf_ 8 54 rfl rfl rfl rfl rfl _ trivial (Y.z (y_fieldAddr rfl rfl fa27_2) rfl) ?_
        refine R_chain 9 rfl rfl ?_
        refine S_store 5 rfl rfl rfl rfl rfl rfl sz22 rfl rfl ?_
        refine R_next ⟨.inl rfl, trivial⟩ ?_
        refine R_go (fun _ _ h => h) ?_
        refine T_region ?_
        refine S_ 44 rfl rfl rfl _ (y_move rfl rfl) ?_
        refine S_ 45 rfl rfl rfl _ (y_bin rfl rfl rfl (fun hg => b_subv (((m - 1 : Nat) : Int)) (by omega) (by omega))) ?_
        refine S_ 6 rfl rfl rfl _ (y_assign rfl rfl) ?_
        have hr : PRes (oneF l) t ok (l ++ [x]) t2 o2 := (g1.1.bnd g2.1).map (f := fun x => l ++ [x])
        have hlen : (l ++ [x]).length = l.length + 1 := by simp
        refine S_nil (nextK6 (kf := [(6, 6), (35, 54)]) (kl := [(5, 6), (22, 22), (35, 54), (908, 908)]) (m - 1) (l ++ [x]) t2 o2 A53 c53 (by repeat (first | exact kf_nil | (apply kf_in; focus rfl) | (apply kf_out; focus rfl))) (by repeat (first | exact kl_none | exact kl_tail (by assumption) rfl (by repeat (first | exact ti_refl | (apply ti_cons; focus rfl))) | refine kl_cons rfl rfl ?_)) ?_ ?_ ?_ ?_)
        · omega
        · exact ⟨by omega, hp2.next hm hok hr, fun h => by have := less_of (one := oneF) oneF_less hr h; omega, ⟨by omega, all_snoc rfl hp4.2 (by show x.length ≤ 1000000; omega)⟩, by omega⟩
        · exact ⟨rfl, trivial⟩
        · exact ⟨rfl, rfl, rfl, trivial⟩
      · skip
        obtain ⟨s5, es5⟩ : ∃ s5, s5 = t := ⟨_, rfl⟩
        obtain ⟨ok5, eo5⟩ : ∃ o, o = ok := ⟨_, rfl⟩
        obtain ⟨fl, efl⟩ : ∃ z, z = l := ⟨_, rfl⟩
        obtain ⟨fA, eA⟩ : ∃ z, z = A := ⟨_, rfl⟩
        obtain ⟨fc, ec⟩ : ∃ z, z = c := ⟨_, rfl⟩
        have h5 : PRes (lst oneF []) s3 ok3 l t ok := h4.1.bnd (hp2.done (end_list h43))
        subst es5 eo5 efl eA ec
        have hz5 := hp4
        have hy5 := hp5
        clear h43 hp1 hp2 hp3 hp4 hp5
        refine T_exit_go (fun _ _ h => h) ?_
        refine T_seq ?_
        refine T_region ?_
        refine S_ 7 rfl rfl rfl _ (y_assign rfl rfl) ?_
        refine S_go (fun _ _ h => h) ?_
        refine T_seq ?_
        refine T_seq ?_
        refine T_region ?_
        refine S_ 55 rfl rfl rfl _ (y_move rfl rfl) ?_
        refine S_callM 56 [(901, 22)] (X := Nat × List UInt8 × Bool) rfl rfl rfl rfl rfl rfl rfl cf71 rfl (fun z => .int .i64 (z.1 : Int)) (fun z => PRes nm (s5) (ok5) z.1 z.2.1 z.2.2 ∧ z.2.1.length ≤ (s5).length ∧ z.1 ≤ 281474976710656) (fun z => [(901, tkI b22 z.2.1 z.2.2)]) (fun _ => rfl) (fun _ => rfl) (fun K1 hK1 w hM => tkNum_any hK1 b22 (s5) (ok5) w hM) ?_
        rintro ⟨N2, s6, ok6⟩ h6
        try dsimp only at h6
        refine S_ 8 rfl rfl rfl _ (y_assign rfl rfl) ?_
        refine S_go (fun _ _ h => h) ?_
        refine T_block ?_
        refine T_loopK7 (kf := [(7, 9), (57, 91)]) (kl := [(5, 5), (7, 9), (22, 22), (57, 91), (909, 909)]) (fun (m : Nat) (l : List SFunc) (last : Int) (t : List UInt8) (ok : Bool) (A : Option Addr) (c : Nat) => [(8, true, .int .i64 (m : Int)), (7, true, .int .i64 last)]) (fun (m : Nat) (l : List SFunc) (last : Int) (t : List UInt8) (ok : Bool) (A : Option Addr) (c : Nat) => [(22, tkI b22 t ok), (5, .blk b5 (IsBox [str id, .int .i64 (n : Int), .slice fA fl.length fc, .slice A l.length c, .slice none 0 0, .slice none 0 0] 27)), (909, rU A c l)]) (fun (m : Nat) (l : List SFunc) (last : Int) (t : List UInt8) (ok : Bool) (A : Option Addr) (c : Nat) => m ≤ 281474976710656 ∧ IterInv oneU N2 ([], 0) s6 ok6 m (l, last) t ok ∧ (ok = true → l.length + t.length ≤ 1000000) ∧ (l.length ≤ 1000001 ∧ ∀ x ∈ l, x.name.length ≤ 1000000) ∧ t.length ≤ s.length) (fun (m : Nat) (l : List SFunc) (last : Int) (t : List UInt8) (ok : Bool) (A : Option Addr) (c : Nat) => m) N2 [] 0 s6 ok6 none 0 (by repeat (first | exact kf_nil | (apply kf_in; focus rfl) | (apply kf_out; focus rfl))) (by repeat (first | exact kl_nil | exact kl_rest (by assumption) rfl | (apply kl_in; focus rfl) | (apply kl_out; focus rfl))) ?_ ?_ ?_ ?_
        · exact ⟨h6.2.2, IterInv.start, fun _ => by show 0 + s6.length ≤ 1000000; omega, ⟨by simp, by simp⟩, by omega⟩
        · exact ⟨rfl, rfl, trivial⟩
        · exact ⟨rfl, rfl, rfl, trivial⟩
        rintro m l last t ok A c ⟨hp1, hp2, hp3, hp4, hp5⟩
        refine T_seq ?_
        refine T_seq ?_
        refine T_region ?_
        refine S_ 57 rfl rfl rfl _ (y_move rfl rfl) ?_
        refine S_ 58 rfl rfl rfl _ (y_bin rfl rfl rfl (fun _ => b_gtr)) ?_
        refine S_ 59 rfl rfl rfl _ (y_move rfl rfl) ?_
        refine Sg_ 60 rfl rfl rfl rfl rfl rfl _ (y_move rfl rfl) ?_
        refine Sg_ 61 rfl rfl rfl rfl rfl rfl _ (y_nilCheck rfl rfl) ?_
        refine Sg_ 62 rfl rfl rfl rfl rfl rfl _ (y_fieldAddr rfl rfl fa118_1) ?_
        refine Sg_ 63 rfl rfl rfl rfl rfl rfl _ (y_load 22 rfl rfl rfl rfl Tryd.underlying4 rfl) ?_
        refine Sg_ 64 rfl rfl rfl rfl rfl rfl _ (y_as (v' := .bool ok) (by rw [Bool.not_not]) (y_not rfl rfl)) ?_
        refine S_ 65 rfl rfl rfl _ (y_and rfl rfl rfl) ?_
        refine S_go (fun _ _ h => h) ?_
        refine T_cond rfl (fun h65 => ?_) (fun h65 => ?_)
        · skip
          obtain ⟨hok, hm⟩ := go_list h65
          have hb := hp3 hok
          refine T_skip_go (fun _ _ h => h) ?_
          refine T_seq ?_
          refine T_block ?_
          refine T_seq ?_
          refine T_region ?_
          refine S_ 68 rfl rfl rfl _ (y_move rfl rfl) ?_
          refine S_ 69 rfl rfl rfl _ (y_move rfl rfl) ?_
          refine S_callM 70 [(901, 22)] (X := Nat × List UInt8 × Bool) rfl rfl rfl rfl rfl rfl rfl cf71 rfl (fun z => .int .i64 (z.1 : Int)) (fun z => PRes nm (t) (ok) z.1 z.2.1 z.2.2 ∧ z.2.1.length ≤ (t).length ∧ z.1 ≤ 281474976710656) (fun z => [(901, tkI b22 z.2.1 z.2.2)]) (fun _ => rfl) (fun _ => rfl) (fun K1 hK1 w hM => tkNum_any hK1 b22 (t) (ok) w hM) ?_
          rintro ⟨k1, t1, o1⟩ g1
          try dsimp only at g1
          refine S_ 71 rfl rfl rfl _ (y_bin rfl rfl rfl (fun hg => b_addw)) ?_
          refine S_ 72 rfl rfl rfl _ (y_build (zv := .agg #[.string ⟨#[]⟩, .int .i64 0, .int .i64 0]) (pl := [(0, 1), (1, 1), (2, 1)]) (out := [.string ⟨#[]⟩, _, .int .i64 0]) rfl rfl Tryd.underlying80 z80 (by kernel_rfl) rfl) ?_
          refine S_alloc 9 9 rfl rfl rfl rfl z80 ?_
          intro b9
          refine S_store 9 rfl rfl rfl rfl rfl rfl sz80 rfl rfl ?_
          refine S_go (fun _ _ h => h) ?_
          refine T_seq ?_
          refine T_perm [0, 1, 2, 3, 4, 5, 6] [true, true, true, false, true, true, false] [0, 1, 0, 4, 15, 31, 63] [(1, [9])] (by kernel_rfl) (by kernel_rfl) (by kernel_rfl) rfl (by kernel_rfl) ?_
          refine Rf_ 0 73 rfl rfl rfl rfl rfl _ trivial (Y.z (y_fieldAddr rfl rfl fa80_1) rfl) ?_
          refine Rf_ 1 74 rfl rfl rfl rfl rfl _ ⟨rfl, trivial⟩ (Y.z (y_load 9 rfl rfl rfl rfl Tryd.underlying3 rfl) rfl) ?_
          refine Rf_ 2 75 rfl rfl rfl rfl rfl _ trivial (Y.z (y_move rfl rfl) rfl) ?_
          refine R_chain 3 rfl rfl ?_
          refine S_callM 76 [(901, 22)] (X := Nat × List UInt8 × Bool) rfl rfl rfl rfl rfl rfl rfl cf71 rfl (fun z => .int .i64 (z.1 : Int)) (fun z => PRes nm (t1) (o1) z.1 z.2.1 z.2.2 ∧ z.2.1.length ≤ (t1).length ∧ z.1 ≤ 281474976710656) (fun z => [(901, tkI b22 z.2.1 z.2.2)]) (fun _ => rfl) (fun _ => rfl) (fun K1 hK1 w hM => tkNum_any hK1 b22 (t1) (o1) w hM) ?_
          rintro ⟨k2, t2, o2⟩ g2
          try dsimp only at g2
          refine R_next ⟨.inr ⟨rfl, trivial⟩, trivial⟩ ?_
          refine Rf_ 4 77 rfl rfl rfl rfl rfl _ trivial (Y.z (y_bin rfl rfl rfl (fun hg => b_addw)) rfl) ?_
          refine Rf_ 5 78 rfl rfl rfl rfl rfl _ trivial (Y.z (y_fieldAddr rfl rfl fa80_2) rfl) ?_
          refine R_chain 6 rfl rfl ?_
          refine S_store 9 rfl rfl rfl rfl rfl rfl sz3 rfl rfl ?_
          refine R_next ⟨.inl rfl, trivial⟩ ?_
          refine R_go (fun _ _ h => h) ?_
          refine T_seq ?_
          refine T_region ?_
          refine S_ 79 rfl rfl rfl _ (y_move rfl rfl) ?_
          refine S_ 80 rfl rfl rfl _ (y_move rfl rfl) ?_
          refine S_callM 81 [(901, 22)] (X := Nat × List UInt8 × Bool) rfl rfl rfl rfl rfl rfl rfl cf71 rfl (fun z => .int .i64 (z.1 : Int)) (fun z => PRes nm (t2) (o2) z.1 z.2.1 z.2.2 ∧ z.2.1.length ≤ (t2).length ∧ z.1 ≤ 281474976710656) (fun z => [(901, tkI b22 z.2.1 z.2.2)]) (fun _ => rfl) (fun _ => rfl) (fun K1 hK1 w hM => tkNum_any hK1 b22 (t2) (o2) w hM) ?_
          rintro ⟨k3, t3, o3⟩ g3
          try dsimp only at g3
          refine S_callM 82 [(901, 22)] (X := List UInt8 × List UInt8 × Bool) rfl rfl rfl rfl rfl rfl rfl cf70 rfl (fun z => str z.1) (fun z => PRes (tk (k3)) (t3) (o3) z.1 z.2.1 z.2.2 ∧ z.1.length ≤ (t3).length ∧ z.2.1.length ≤ (t3).length) (fun z => [(901, tkI b22 z.2.1 z.2.2)]) (fun _ => rfl) (fun _ => rfl) (fun K1 hK1 w hM => tkTake_any hK1 b22 (k3) (t3) (o3) w hM) ?_
          rintro ⟨x, t4, o4⟩ g4
          try dsimp only at g4
          refine S_ 83 rfl rfl rfl _ (y_fieldAddr rfl rfl fa80_0) ?_
          refine S_store 9 rfl rfl rfl rfl rfl rfl sz9 rfl rfl ?_
          refine S_go (fun _ _ h => h) ?_
          refine T_seq ?_
          refine T_region ?_
          refine S_ 84 rfl rfl rfl _ (y_fieldAddr rfl rfl fa80_2) ?_
          refine S_ 85 rfl rfl rfl _ (y_load 9 rfl rfl rfl rfl Tryd.underlying3 rfl) ?_
          refine S_ 7 rfl rfl rfl _ (y_assign rfl rfl) ?_
          refine S_go (fun _ _ h => h) ?_
          refine T_region ?_
          refine S_ 86 rfl rfl rfl _ (y_fieldAddr rfl rfl fa27_3) ?_
          refine S_ 87 rfl rfl rfl _ (y_load 5 rfl rfl rfl rfl Tryd.underlying23 rfl) ?_
          refine S_ 88 rfl rfl rfl _ (y_loadA 9 rfl rfl rfl Tryd.underlying80 rfl sz80) ?_
          refine S_buildSlice 89 89 rfl rfl rfl rfl rfl Tryd.underlying23 inf80 rfl (by decide) (by decide) rfl rfl (by decide) rfl (_) rfl ?_
          intro b89
          obtain ⟨i90, hi90, hz90, hs90, hy90⟩ := info_parts inf80
          refine S_append 90 909 89 rfl rfl rfl rfl rfl rfl rfl rfl Tryd.underlying23 hi90 hz90 hs90 hy90 rfl (by decide) (by decide) rfl ?_ ?_ ((l ++ [(⟨x, wr (last + k1), wr (wr (last + k1) + k2)⟩ : SFunc)]).length) ((l ++ [(⟨x, wr (last + k1), wr (wr (last + k1) + k2)⟩ : SFunc)]).flatMap SFunc.enc) ?_ ?_ ?_
          · (simp only [maxLen]; omega)
          · omega
          · simp
          · simp [List.flatMap_append, SFunc.enc]; rfl
          intro A90 c90
          refine S_ 91 rfl rfl rfl _ (y_fieldAddr rfl rfl fa27_3) ?_
          refine S_store 5 rfl rfl rfl rfl rfl rfl sz23 rfl rfl ?_
          refine S_go (fun _ _ h => h) ?_
          refine T_region ?_
          refine S_ 66 rfl rfl rfl _ (y_move rfl rfl) ?_
          refine S_ 67 rfl rfl rfl _ (y_bin rfl rfl rfl (fun hg => b_subv (((m - 1 : Nat) : Int)) (by omega) (by omega))) ?_
          refine S_ 8 rfl rfl rfl _ (y_assign rfl rfl) ?_
          have hr : PRes (oneU (l, last)) t ok (l ++ [(⟨x, wr (last + k1), wr (wr (last + k1) + k2)⟩ : SFunc)], wr (wr (last + k1) + k2)) t4 o4 := g1.1.bnd (g2.1.bnd ((g3.1.bnd g4.1).bnd PRes.giv))
          have hlen : (l ++ [(⟨x, wr (last + k1), wr (wr (last + k1) + k2)⟩ : SFunc)]).length = l.length + 1 := by simp
          refine S_nil (nextK7 (kf := [(7, 9), (57, 91)]) (kl := [(5, 5), (7, 9), (22, 22), (57, 91), (909, 909)]) (m - 1) (l ++ [(⟨x, wr (last + k1), wr (wr (last + k1) + k2)⟩ : SFunc)]) (wr (wr (last + k1) + k2)) t4 o4 A90 c90 (by repeat (first | exact kf_nil | (apply kf_in; focus rfl) | (apply kf_out; focus rfl))) (by repeat (first | exact kl_none | exact kl_tail (by assumption) rfl (by repeat (first | exact ti_refl | (apply ti_cons; focus rfl))) | refine kl_cons rfl rfl ?_)) ?_ ?_ ?_ ?_)
          · omega
          · exact ⟨by omega, hp2.next hm hok hr, fun h => by have := less_of (one := oneU) oneU_less hr h; omega, ⟨by omega, all_snoc rfl hp4.2 (by show x.length ≤ 1000000; omega)⟩, by omega⟩
          · exact ⟨rfl, rfl, trivial⟩
          · exact ⟨rfl, rfl, rfl, trivial⟩
        · skip
          obtain ⟨s7, es7⟩ : ∃ s5, s5 = t := ⟨_, rfl⟩
          obtain ⟨ok7, eo7⟩ : ∃ o, o = ok := ⟨_, rfl⟩
          obtain ⟨ul, eul⟩ : ∃ z, z = l := ⟨_, rfl⟩
          obtain ⟨uA, eA⟩ : ∃ z, z = A := ⟨_, rfl⟩
          obtain ⟨uc, ec⟩ : ∃ z, z = c := ⟨_, rfl⟩
          have h7 : PRes (lst oneU ([], 0)) s5 ok5 (l, last) t ok := h6.1.bnd (hp2.done (end_list h65))
          subst es7 eo7 eul eA ec
          have hz7 := hp4
          have hy7 := hp5
          clear h65 hp1 hp2 hp3 hp4 hp5
          refine T_exit_go (fun _ _ h => h) ?_
          refine T_seq ?_
          refine T_region ?_
          refine S_ 92 rfl rfl rfl _ (y_build (zv := .agg #[.int .i64 0, .int .i64 0, .int .i64 0]) (pl := [(0, 1), (1, 1), (2, 1)]) (out := [.int .i64 0, .int .i64 0, .int .i64 0]) rfl rfl Tryd.underlying98 z98 (by kernel_rfl) rfl) ?_
          refine S_alloc 10 10 rfl rfl rfl rfl z98 ?_
          intro b10
          refine S_store 10 rfl rfl rfl rfl rfl rfl sz98 rfl rfl ?_
          refine S_go (fun _ _ h => h) ?_
          refine T_seq ?_
          refine T_seq ?_
          refine T_region ?_
          refine S_ 93 rfl rfl rfl _ (y_move rfl rfl) ?_
          refine S_callM 94 [(901, 22)] (X := Nat × List UInt8 × Bool) rfl rfl rfl rfl rfl rfl rfl cf71 rfl (fun z => .int .i64 (z.1 : Int)) (fun z => PRes nm (s7) (ok7) z.1 z.2.1 z.2.2 ∧ z.2.1.length ≤ (s7).length ∧ z.1 ≤ 281474976710656) (fun z => [(901, tkI b22 z.2.1 z.2.2)]) (fun _ => rfl) (fun _ => rfl) (fun K1 hK1 w hM => tkNum_any hK1 b22 (s7) (ok7) w hM) ?_
          rintro ⟨N3, s8, ok8⟩ h8
          try dsimp only at h8
          refine S_ 11 rfl rfl rfl _ (y_assign rfl rfl) ?_
          refine S_go (fun _ _ h => h) ?_
          refine T_block ?_
          refine T_loopK7 (kf := [(11, 11), (95, 129)]) (kl := [(5, 5), (10, 11), (22, 22), (95, 129), (910, 910)]) (fun (m : Nat) (l : List SRow) (b : SRow) (t : List UInt8) (ok : Bool) (A : Option Addr) (c : Nat) => [(11, true, .int .i64 (m : Int))]) (fun (m : Nat) (l : List SRow) (b : SRow) (t : List UInt8) (ok : Bool) (A : Option Addr) (c : Nat) => [(22, tkI b22 t ok), (5, .blk b5 (IsBox [str id, .int .i64 (n : Int), .slice fA fl.length fc, .slice uA ul.length uc, .slice A l.length c, .slice none 0 0] 27)), (910, rR A c l), (10, .blk b10 (IsBox (SRow.enc b) 98))]) (fun (m : Nat) (l : List SRow) (b : SRow) (t : List UInt8) (ok : Bool) (A : Option Addr) (c : Nat) => m ≤ 281474976710656 ∧ IterInv oneR N3 ([], rowZ) s8 ok8 m (l, b) t ok ∧ (ok = true → l.length + t.length ≤ 1000000) ∧ (l.length ≤ 1000001 ∧ ∀ x ∈ l, True) ∧ t.length ≤ s.length) (fun (m : Nat) (l : List SRow) (b : SRow) (t : List UInt8) (ok : Bool) (A : Option Addr) (c : Nat) => m) N3 [] rowZ s8 ok8 none 0 (by repeat (first | exact kf_nil | (apply kf_in; focus rfl) | (apply kf_out; focus rfl))) (by repeat (first | exact kl_nil | exact kl_rest (by assumption) rfl | (apply kl_in; focus rfl) | (apply kl_out; focus rfl))) ?_ ?_ ?_ ?_
          · exact ⟨h8.2.2, IterInv.start, fun _ => by show 0 + s8.length ≤ 1000000; omega, ⟨by simp, by simp⟩, by omega⟩
          · exact ⟨rfl, trivial⟩
          · exact ⟨rfl, rfl, rfl, rfl, trivial⟩
          rintro m l b t ok A c ⟨hp1, hp2, hp3, hp4, hp5⟩
          refine T_seq ?_
          refine T_seq ?_
          refine T_region ?_
          refine S_ 95 rfl rfl rfl _ (y_move rfl rfl) ?_
          refine S_ 96 rfl rfl rfl _ (y_bin rfl rfl rfl (fun _ => b_gtr)) ?_
          refine S_ 97 rfl rfl rfl _ (y_move rfl rfl) ?_
          refine Sg_ 98 rfl rfl rfl rfl rfl rfl _ (y_move rfl rfl) ?_
          refine Sg_ 99 rfl rfl rfl rfl rfl rfl _ (y_nilCheck rfl rfl) ?_
          refine Sg_ 100 rfl rfl rfl rfl rfl rfl _ (y_fieldAddr rfl rfl fa118_1) ?_
          refine Sg_ 101 rfl rfl rfl rfl rfl rfl _ (y_load 22 rfl rfl rfl rfl Tryd.underlying4 rfl) ?_
          refine Sg_ 102 rfl rfl rfl rfl rfl rfl _ (y_as (v' := .bool ok) (by rw [Bool.not_not]) (y_not rfl rfl)) ?_
          refine S_ 103 rfl rfl rfl _ (y_and rfl rfl rfl) ?_
          refine S_go (fun _ _ h => h) ?_
          refine T_cond rfl (fun h103 => ?_) (fun h103 => ?_)
          · skip
            obtain ⟨hok, hm⟩ := go_list h103
            have hb := hp3 hok
            refine T_skip_go (fun _ _ h => h) ?_
            refine T_seq ?_
            refine T_block ?_
            refine T_seq ?_
            refine T_perm [0, 1, 2, 3, 4, 5, 6] [true, true, true, false, true, true, false] [0, 1, 0, 4, 15, 31, 63] [(1, [10])] (by kernel_rfl) (by kernel_rfl) (by kernel_rfl) rfl (by kernel_rfl) ?_
            refine Rf_ 0 106 rfl rfl rfl rfl rfl _ trivial (Y.z (y_fieldAddr rfl rfl fa98_0) rfl) ?_
            refine Rf_ 1 107 rfl rfl rfl rfl rfl _ ⟨rfl, trivial⟩ (Y.z (y_load 10 rfl rfl rfl rfl Tryd.underlying3 rfl) rfl) ?_
            refine Rf_ 2 108 rfl rfl rfl rfl rfl _ trivial (Y.z (y_move rfl rfl) rfl) ?_
            refine R_chain 3 rfl rfl ?_
            refine S_callM 109 [(901, 22)] (X := Nat × List UInt8 × Bool) rfl rfl rfl rfl rfl rfl rfl cf71 rfl (fun z => .int .i64 (z.1 : Int)) (fun z => PRes nm (t) (ok) z.1 z.2.1 z.2.2 ∧ z.2.1.length ≤ (t).length ∧ z.1 ≤ 281474976710656) (fun z => [(901, tkI b22 z.2.1 z.2.2)]) (fun _ => rfl) (fun _ => rfl) (fun K1 hK1 w hM => tkNum_any hK1 b22 (t) (ok) w hM) ?_
            rintro ⟨k1, t1, o1⟩ g1
            try dsimp only at g1
            refine R_next ⟨.inr ⟨rfl, trivial⟩, trivial⟩ ?_
            refine Rf_ 4 110 rfl rfl rfl rfl rfl _ trivial (Y.z (y_bin rfl rfl rfl (fun hg => b_addw)) rfl) ?_
            refine Rf_ 5 111 rfl rfl rfl rfl rfl _ trivial (Y.z (y_fieldAddr rfl rfl fa98_0) rfl) ?_
            refine R_chain 6 rfl rfl ?_
            refine S_store 10 rfl rfl rfl rfl rfl rfl sz3 rfl rfl ?_
            refine R_next ⟨.inl rfl, trivial⟩ ?_
            refine R_go (fun _ _ h => h) ?_
            refine T_seq ?_
            refine T_perm [0, 1, 2, 3, 4, 5, 6] [true, true, true, false, true, true, false] [0, 1, 0, 4, 15, 31, 63] [(1, [10])] (by kernel_rfl) (by kernel_rfl) (by kernel_rfl) rfl (by kernel_rfl) ?_
            refine Rf_ 0 112 rfl rfl rfl rfl rfl _ trivial (Y.z (y_fieldAddr rfl rfl fa98_1) rfl) ?_
            refine Rf_ 1 113 rfl rfl rfl rfl rfl _ ⟨rfl, trivial⟩ (Y.z (y_load 10 rfl rfl rfl rfl Tryd.underlying3 rfl) rfl) ?_
            refine Rf_ 2 114 rfl rfl rfl rfl rfl _ trivial (Y.z (y_move rfl rfl) rfl) ?_
            refine R_chain 3 rfl rfl ?_
            refine S_callM 115 [(901, 22)] (X := Int × List UInt8 × Bool) rfl rfl rfl rfl rfl rfl rfl cf72 rfl (fun z => .int .i64 z.1) (fun z => PRes sg (t1) (o1) z.1 z.2.1 z.2.2 ∧ z.2.1.length ≤ (t1).length) (fun z => [(901, tkI b22 z.2.1 z.2.2)]) (fun _ => rfl) (fun _ => rfl) (fun K1 hK1 w hM => tkSgn_any hK1 b22 (t1) (o1) w hM) ?_
            rintro ⟨k2, t2, o2⟩ g2
            try dsimp only at g2
            refine R_next ⟨.inr ⟨rfl, trivial⟩, trivial⟩ ?_
            refine Rf_ 4 116 rfl rfl rfl rfl rfl _ trivial (Y.z (y_bin rfl rfl rfl (fun hg => b_addw)) rfl) ?_
            refine Rf_ 5 117 rfl rfl rfl rfl rfl _ trivial (Y.z (y_fieldAddr rfl rfl fa98_1) rfl) ?_
            refine R_chain 6 rfl rfl ?_
            refine S_store 10 rfl rfl rfl rfl rfl rfl sz3 rfl rfl ?_
            refine R_next ⟨.inl rfl, trivial⟩ ?_
            refine R_go (fun _ _ h => h) ?_
            refine T_seq ?_
            refine T_perm [0, 1, 2, 3, 4, 5, 6] [true, true, true, false, true, true, false] [0, 1, 0, 4, 15, 31, 63] [(1, [10])] (by kernel_rfl) (by kernel_rfl) (by kernel_rfl) rfl (by kernel_rfl) ?_
            refine Rf_ 0 118 rfl rfl rfl rfl rfl _ trivial (Y.z (y_fieldAddr rfl rfl fa98_2) rfl) ?_
            refine Rf_ 1 119 rfl rfl rfl rfl rfl _ ⟨rfl, trivial⟩ (Y.z (y_load 10 rfl rfl rfl rfl Tryd.underlying3 rfl) rfl) ?_
            refine Rf_ 2 120 rfl rfl rfl rfl rfl _ trivial (Y.z (y_move rfl rfl) rfl) ?_
            refine R_chain 3 rfl rfl ?_
            refine S_callM 121 [(901, 22)] (X := Int × List UInt8 × Bool) rfl rfl rfl rfl rfl rfl rfl cf72 rfl (fun z => .int .i64 z.1) (fun z => PRes sg (t2) (o2) z.1 z.2.1 z.2.2 ∧ z.2.1.length ≤ (t2).length) (fun z => [(901, tkI b22 z.2.1 z.2.2)]) (fun _ => rfl) (fun _ => rfl) (fun K1 hK1 w hM => tkSgn_any hK1 b22 (t2) (o2) w hM) ?_
            rintro ⟨k3, t3, o3⟩ g3
            try dsimp only at g3
            refine R_next ⟨.inr ⟨rfl, trivial⟩, trivial⟩ ?_
            refine Rf_ 4 122 rfl rfl rfl rfl rfl _ trivial (Y.z (y_bin rfl rfl rfl (fun hg => b_addw)) rfl) ?_
            refine Rf_ 5 123 rfl rfl rfl rfl rfl _ trivial (Y.z (y_fieldAddr rfl rfl fa98_2) rfl) ?_
            refine R_chain 6 rfl rfl ?_
            refine S_store 10 rfl rfl rfl rfl rfl rfl sz3 rfl rfl ?_
            refine R_next ⟨.inl rfl, trivial⟩ ?_
            refine R_go (fun _ _ h => h) ?_
            refine T_region ?_
            refine S_ 124 rfl rfl rfl _ (y_fieldAddr rfl rfl fa27_4) ?_
            refine S_ 125 rfl rfl rfl _ (y_load 5 rfl rfl rfl rfl Tryd.underlying24 rfl) ?_
            refine S_ 126 rfl rfl rfl _ (y_loadA 10 rfl rfl rfl Tryd.underlying98 rfl sz98) ?_
            refine S_buildSlice 127 127 rfl rfl rfl rfl rfl Tryd.underlying24 inf98 rfl (by decide) (by decide) rfl rfl (by decide) rfl (_) rfl ?_
            intro b127
            obtain ⟨i128, hi128, hz128, hs128, hy128⟩ := info_parts inf98
            refine S_append 128 910 127 rfl rfl rfl rfl rfl rfl rfl rfl Tryd.underlying24 hi128 hz128 hs128 hy128 rfl (by decide) (by decide) rfl ?_ ?_ ((l ++ [(⟨wr (b.pos + k1), wr (b.fi + k2), wr (b.ln + k3)⟩ : SRow)]).length) ((l ++ [(⟨wr (b.pos + k1), wr (b.fi + k2), wr (b.ln + k3)⟩ : SRow)]).flatMap SRow.enc) ?_ ?_ ?_
            · (simp only [maxLen]; omega)
            · omega
            · simp
            · simp [List.flatMap_append, SRow.enc]; rfl
            intro A128 c128
            refine S_ 129 rfl rfl rfl _ (y_fieldAddr rfl rfl fa27_4) ?_
            refine S_store 5 rfl rfl rfl rfl rfl rfl sz24 rfl rfl ?_
            refine S_go (fun _ _ h => h) ?_
            refine T_region ?_
            refine S_ 104 rfl rfl rfl _ (y_move rfl rfl) ?_
            refine S_ 105 rfl rfl rfl _ (y_bin rfl rfl rfl (fun hg => b_subv (((m - 1 : Nat) : Int)) (by omega) (by omega))) ?_
            refine S_ 11 rfl rfl rfl _ (y_assign rfl rfl) ?_
            have hr : PRes (oneR (l, b)) t ok (l ++ [(⟨wr (b.pos + k1), wr (b.fi + k2), wr (b.ln + k3)⟩ : SRow)], ⟨wr (b.pos + k1), wr (b.fi + k2), wr (b.ln + k3)⟩) t3 o3 := g1.1.bnd (g2.1.bnd (g3.1.bnd PRes.giv))
            have hlen : (l ++ [(⟨wr (b.pos + k1), wr (b.fi + k2), wr (b.ln + k3)⟩ : SRow)]).length = l.length + 1 := by simp
            refine S_nil (nextK7 (kf := [(11, 11), (95, 129)]) (kl := [(5, 5), (10, 11), (22, 22), (95, 129), (910, 910)]) (m - 1) (l ++ [(⟨wr (b.pos + k1), wr (b.fi + k2), wr (b.ln + k3)⟩ : SRow)]) ⟨wr (b.pos + k1), wr (b.fi + k2), wr (b.ln + k3)⟩ t3 o3 A128 c128 (by repeat (first | exact kf_nil | (apply kf_in; focus rfl) | (apply kf_out; focus rfl))) (by repeat (first | exact kl_none | exact kl_tail (by assumption) rfl (by repeat (first | exact ti_refl | (apply ti_cons; focus rfl))) | refine kl_cons rfl rfl ?_)) ?_ ?_ ?_ ?_)
            · omega
            · exact ⟨by omega, hp2.next hm hok hr, fun h => by have := less_of (one := oneR) oneR_less hr h; omega, ⟨by omega, fun _ _ => trivial⟩, by omega⟩
            · exact ⟨rfl, trivial⟩
            · exact ⟨rfl, rfl, rfl, rfl, trivial⟩
          · skip
            obtain ⟨s9, es9⟩ : ∃ s5, s5 = t := ⟨_, rfl⟩
            obtain ⟨ok9, eo9⟩ : ∃ o, o = ok := ⟨_, rfl⟩
            obtain ⟨rl, erl⟩ : ∃ z, z = l := ⟨_, rfl⟩
            obtain ⟨rA, eA⟩ : ∃ z, z = A := ⟨_, rfl⟩
            obtain ⟨rc, ec⟩ : ∃ z, z = c := ⟨_, rfl⟩
            have h9 : PRes (lst oneR ([], rowZ)) s7 ok7 (l, b) t ok := h8.1.bnd (hp2.done (end_list h103))
            subst es9 eo9 erl eA ec
            have hz9 := hp4
            have hy9 := hp5
            clear h103 hp1 hp2 hp3 hp4 hp5
            refine T_exit_go (fun _ _ h => h) ?_
            refine T_seq ?_
            refine T_region ?_
            refine S_ 12 rfl rfl rfl _ (y_assign rfl rfl) ?_
            refine S_go (fun _ _ h => h) ?_
            refine T_seq ?_
            refine T_seq ?_
            refine T_region ?_
            refine S_ 130 rfl rfl rfl _ (y_move rfl rfl) ?_
            refine S_callM 131 [(901, 22)] (X := Nat × List UInt8 × Bool) rfl rfl rfl rfl rfl rfl rfl cf71 rfl (fun z => .int .i64 (z.1 : Int)) (fun z => PRes nm (s9) (ok9) z.1 z.2.1 z.2.2 ∧ z.2.1.length ≤ (s9).length ∧ z.1 ≤ 281474976710656) (fun z => [(901, tkI b22 z.2.1 z.2.2)]) (fun _ => rfl) (fun _ => rfl) (fun K1 hK1 w hM => tkNum_any hK1 b22 (s9) (ok9) w hM) ?_
            rintro ⟨N4, s10, ok10⟩ h10
            try dsimp only at h10
            refine S_ 13 rfl rfl rfl _ (y_assign rfl rfl) ?_
            refine S_go (fun _ _ h => h) ?_
            refine T_block ?_
            refine T_loopK7 (kf := [(12, 14), (132, 172)]) (kl := [(5, 5), (12, 14), (22, 22), (132, 172), (911, 911)]) (fun (m : Nat) (l : List SCall) (last : Int) (t : List UInt8) (ok : Bool) (A : Option Addr) (c : Nat) => [(13, true, .int .i64 (m : Int)), (12, true, .int .i64 last)]) (fun (m : Nat) (l : List SCall) (last : Int) (t : List UInt8) (ok : Bool) (A : Option Addr) (c : Nat) => [(22, tkI b22 t ok), (5, .blk b5 (IsBox [str id, .int .i64 (n : Int), .slice fA fl.length fc, .slice uA ul.length uc, .slice rA rl.length rc, .slice A l.length c] 27)), (911, rC A c l)]) (fun (m : Nat) (l : List SCall) (last : Int) (t : List UInt8) (ok : Bool) (A : Option Addr) (c : Nat) => m ≤ 281474976710656 ∧ IterInv oneC N4 ([], 0) s10 ok10 m (l, last) t ok ∧ (ok = true → l.length + t.length ≤ 1000000) ∧ (l.length ≤ 1000001 ∧ ∀ x ∈ l, x.name.length ≤ 1000000) ∧ t.length ≤ s.length) (fun (m : Nat) (l : List SCall) (last : Int) (t : List UInt8) (ok : Bool) (A : Option Addr) (c : Nat) => m) N4 [] 0 s10 ok10 none 0 (by repeat (first | exact kf_nil | (apply kf_in; focus rfl) | (apply kf_out; focus rfl))) (by repeat (first | exact kl_nil | exact kl_rest (by assumption) rfl | (apply kl_in; focus rfl) | (apply kl_out; focus rfl))) ?_ ?_ ?_ ?_
            · exact ⟨h10.2.2, IterInv.start, fun _ => by show 0 + s10.length ≤ 1000000; omega, ⟨by simp, by simp⟩, by omega⟩
            · exact ⟨rfl, rfl, trivial⟩
            · exact ⟨rfl, rfl, rfl, trivial⟩
            rintro m l last t ok A c ⟨hp1, hp2, hp3, hp4, hp5⟩
            refine T_seq ?_
            refine T_seq ?_
            refine T_region ?_
            refine S_ 132 rfl rfl rfl _ (y_move rfl rfl) ?_
            refine S_ 133 rfl rfl rfl _ (y_bin rfl rfl rfl (fun _ => b_gtr)) ?_
            refine S_ 134 rfl rfl rfl _ (y_move rfl rfl) ?_
            refine Sg_ 135 rfl rfl rfl rfl rfl rfl _ (y_move rfl rfl) ?_
            refine Sg_ 136 rfl rfl rfl rfl rfl rfl _ (y_nilCheck rfl rfl) ?_
            refine Sg_ 137 rfl rfl rfl rfl rfl rfl _ (y_fieldAddr rfl rfl fa118_1) ?_
            refine Sg_ 138 rfl rfl rfl rfl rfl rfl _ (y_load 22 rfl rfl rfl rfl Tryd.underlying4 rfl) ?_
            refine Sg_ 139 rfl rfl rfl rfl rfl rfl _ (y_as (v' := .bool ok) (by rw [Bool.not_not]) (y_not rfl rfl)) ?_
            refine S_ 140 rfl rfl rfl _ (y_and rfl rfl rfl) ?_
            refine S_go (fun _ _ h => h) ?_
            refine T_cond rfl (fun h140 => ?_) (fun h140 => ?_)
            · skip
              obtain ⟨hok, hm⟩ := go_list h140
              have hb := hp3 hok
              refine T_skip_go (fun _ _ h => h) ?_
              refine T_seq ?_
              refine T_block ?_
              refine T_seq ?_
              refine T_region ?_
              refine S_ 143 rfl rfl rfl _ (y_move rfl rfl) ?_
              refine S_ 144 rfl rfl rfl _ (y_move rfl rfl) ?_
              refine S_callM 145 [(901, 22)] (X := Nat × List UInt8 × Bool) rfl rfl rfl rfl rfl rfl rfl cf71 rfl (fun z => .int .i64 (z.1 : Int)) (fun z => PRes nm (t) (ok) z.1 z.2.1 z.2.2 ∧ z.2.1.length ≤ (t).length ∧ z.1 ≤ 281474976710656) (fun z => [(901, tkI b22 z.2.1 z.2.2)]) (fun _ => rfl) (fun _ => rfl) (fun K1 hK1 w hM => tkNum_any hK1 b22 (t) (ok) w hM) ?_
              rintro ⟨k1, t1, o1⟩ g1
              try dsimp only at g1
              refine S_ 146 rfl rfl rfl _ (y_bin rfl rfl rfl (fun hg => b_addw)) ?_
              refine S_ 147 rfl rfl rfl _ (y_build (zv := .agg #[.string ⟨#[]⟩, .int .i64 0, .int .i64 0, .int .i64 0, .int .i64 0]) (pl := [(0, 1), (1, 1), (2, 1), (3, 1), (4, 1)]) (out := [.string ⟨#[]⟩, _, .int .i64 0, .int .i64 0, .int .i64 0]) rfl rfl Tryd.underlying110 z110 (by kernel_rfl) rfl) ?_
              refine S_alloc 14 14 rfl rfl rfl rfl z110 ?_
              intro b14
              refine S_store 14 rfl rfl rfl rfl rfl rfl sz110 rfl rfl ?_
              refine S_go (fun _ _ h => h) ?_
              refine T_seq ?_
              refine T_perm [0, 1, 2, 3, 4, 5, 6] [true, true, true, false, true, true, false] [0, 1, 0, 4, 15, 31, 63] [(1, [14])] (by kernel_rfl) (by kernel_rfl) (by kernel_rfl) rfl (by kernel_rfl) ?_
              refine Rf_ 0 148 rfl rfl rfl rfl rfl _ trivial (Y.z (y_fieldAddr rfl rfl fa110_1) rfl) ?_
              refine Rf_ 1 149 rfl rfl rfl rfl rfl _ ⟨rfl, trivial⟩ (Y.z (y_load 14 rfl rfl rfl rfl Tryd.underlying3 rfl) rfl) ?_
              refine Rf_ 2 150 rfl rfl rfl rfl rfl _ trivial (Y.z (y_move rfl rfl) rfl) ?_
              refine R_chain 3 rfl rfl ?_
              refine S_callM 151 [(901, 22)] (X := Nat × List UInt8 × Bool) rfl rfl rfl rfl rfl rfl rfl cf71 rfl (fun z => .int .i64 (z.1 : Int)) (fun z => PRes nm (t1) (o1) z.1 z.2.1 z.2.2 ∧ z.2.1.length ≤ (t1).length ∧ z.1 ≤ 281474976710656) (fun z => [(901, tkI b22 z.2.1 z.2.2)]) (fun _ => rfl) (fun _ => rfl) (fun K1 hK1 w hM => tkNum_any hK1 b22 (t1) (o1) w hM) ?_
              rintro ⟨k2, t2, o2⟩ g2
              try dsimp only at g2
              refine R_next ⟨.inr ⟨rfl, trivial⟩, trivial⟩ ?_
              refine Rf_ 4 152 rfl rfl rfl rfl rfl _ trivial (Y.z (y_bin rfl rfl rfl (fun hg => b_addw)) rfl) ?_
              refine Rf_ 5 153 rfl rfl rfl rfl rfl _ trivial (Y.z (y_fieldAddr rfl rfl fa110_2) rfl) ?_
              refine R_chain 6 rfl rfl ?_
              refine S_store 14 rfl rfl rfl rfl rfl rfl sz3 rfl rfl ?_
              refine R_next ⟨.inl rfl, trivial⟩ ?_
              refine R_go (fun _ _ h => h) ?_
              refine T_seq ?_
              refine T_region ?_
              refine S_ 154 rfl rfl rfl _ (y_move rfl rfl) ?_
              refine S_callM 155 [(901, 22)] (X := Nat × List UInt8 × Bool) rfl rfl rfl rfl rfl rfl rfl cf71 rfl (fun z => .int .i64 (z.1 : Int)) (fun z => PRes nm (t2) (o2) z.1 z.2.1 z.2.2 ∧ z.2.1.length ≤ (t2).length ∧ z.1 ≤ 281474976710656) (fun z => [(901, tkI b22 z.2.1 z.2.2)]) (fun _ => rfl) (fun _ => rfl) (fun K1 hK1 w hM => tkNum_any hK1 b22 (t2) (o2) w hM) ?_
              rintro ⟨k3, t3, o3⟩ g3
              try dsimp only at g3
              refine S_ 156 rfl rfl rfl _ (y_move rfl rfl) ?_
              refine S_callM 157 [(901, 22)] (X := Nat × List UInt8 × Bool) rfl rfl rfl rfl rfl rfl rfl cf71 rfl (fun z => .int .i64 (z.1 : Int)) (fun z => PRes nm (t3) (o3) z.1 z.2.1 z.2.2 ∧ z.2.1.length ≤ (t3).length ∧ z.1 ≤ 281474976710656) (fun z => [(901, tkI b22 z.2.1 z.2.2)]) (fun _ => rfl) (fun _ => rfl) (fun K1 hK1 w hM => tkNum_any hK1 b22 (t3) (o3) w hM) ?_
              rintro ⟨k4, t4, o4⟩ g4
              try dsimp only at g4
              refine S_ 158 rfl rfl rfl _ (y_fieldAddr rfl rfl fa110_3) ?_
              refine S_store 14 rfl rfl rfl rfl rfl rfl sz3 rfl rfl ?_
              refine S_ 159 rfl rfl rfl _ (y_fieldAddr rfl rfl fa110_4) ?_
              refine S_store 14 rfl rfl rfl rfl rfl rfl sz3 rfl rfl ?_
              refine S_go (fun _ _ h => h) ?_
              refine T_seq ?_
              refine T_region ?_
              refine S_ 160 rfl rfl rfl _ (y_move rfl rfl) ?_
              refine S_ 161 rfl rfl rfl _ (y_move rfl rfl) ?_
              refine S_callM 162 [(901, 22)] (X := Nat × List UInt8 × Bool) rfl rfl rfl rfl rfl rfl rfl cf71 rfl (fun z => .int .i64 (z.1 : Int)) (fun z => PRes nm (t4) (o4) z.1 z.2.1 z.2.2 ∧ z.2.1.length ≤ (t4).length ∧ z.1 ≤ 281474976710656) (fun z => [(901, tkI b22 z.2.1 z.2.2)]) (fun _ => rfl) (fun _ => rfl) (fun K1 hK1 w hM => tkNum_any hK1 b22 (t4) (o4) w hM) ?_
              rintro ⟨k5, t5, o5⟩ g5
              try dsimp only at g5
              refine S_callM 163 [(901, 22)] (X := List UInt8 × List UInt8 × Bool) rfl rfl rfl rfl rfl rfl rfl cf70 rfl (fun z => str z.1) (fun z => PRes (tk (k5)) (t5) (o5) z.1 z.2.1 z.2.2 ∧ z.1.length ≤ (t5).length ∧ z.2.1.length ≤ (t5).length) (fun z => [(901, tkI b22 z.2.1 z.2.2)]) (fun _ => rfl) (fun _ => rfl) (fun K1 hK1 w hM => tkTake_any hK1 b22 (k5) (t5) (o5) w hM) ?_
              rintro ⟨x, t6, o6⟩ g6
              try dsimp only at g6
              refine S_ 164 rfl rfl rfl _ (y_fieldAddr rfl rfl fa110_0) ?_
              refine S_store 14 rfl rfl rfl rfl rfl rfl sz9 rfl rfl ?_
              refine S_go (fun _ _ h => h) ?_
              refine T_seq ?_
              refine T_region ?_
              refine S_ 165 rfl rfl rfl _ (y_fieldAddr rfl rfl fa110_1) ?_
              refine S_ 166 rfl rfl rfl _ (y_load 14 rfl rfl rfl rfl Tryd.underlying3 rfl) ?_
              refine S_ 12 rfl rfl rfl _ (y_assign rfl rfl) ?_
              refine S_go (fun _ _ h => h) ?_
              refine T_region ?_
              refine S_ 167 rfl rfl rfl _ (y_fieldAddr rfl rfl fa27_5) ?_
              refine S_ 168 rfl rfl rfl _ (y_load 5 rfl rfl rfl rfl Tryd.underlying25 rfl) ?_
              refine S_ 169 rfl rfl rfl _ (y_loadA 14 rfl rfl rfl Tryd.underlying110 rfl sz110) ?_
              refine S_buildSlice 170 170 rfl rfl rfl rfl rfl Tryd.underlying25 inf110 rfl (by decide) (by decide) rfl rfl (by decide) rfl (_) rfl ?_
              intro b170
              obtain ⟨i171, hi171, hz171, hs171, hy171⟩ := info_parts inf110
              refine S_append 171 911 170 rfl rfl rfl rfl rfl rfl rfl rfl Tryd.underlying25 hi171 hz171 hs171 hy171 rfl (by decide) (by decide) rfl ?_ ?_ ((l ++ [(⟨x, wr (last + k1), wr (wr (last + k1) + k2), k3, k4⟩ : SCall)]).length) ((l ++ [(⟨x, wr (last + k1), wr (wr (last + k1) + k2), k3, k4⟩ : SCall)]).flatMap SCall.enc) ?_ ?_ ?_
              · (simp only [maxLen]; omega)
              · omega
              · simp
              · simp [List.flatMap_append, SCall.enc]; rfl
              intro A171 c171
              refine S_ 172 rfl rfl rfl _ (y_fieldAddr rfl rfl fa27_5) ?_
              refine S_store 5 rfl rfl rfl rfl rfl rfl sz25 rfl rfl ?_
              refine S_go (fun _ _ h => h) ?_
              refine T_region ?_
              refine S_ 141 rfl rfl rfl _ (y_move rfl rfl) ?_
              refine S_ 142 rfl rfl rfl _ (y_bin rfl rfl rfl (fun hg => b_subv (((m - 1 : Nat) : Int)) (by omega) (by omega))) ?_
              refine S_ 13 rfl rfl rfl _ (y_assign rfl rfl) ?_
              have hr : PRes (oneC (l, last)) t ok (l ++ [(⟨x, wr (last + k1), wr (wr (last + k1) + k2), k3, k4⟩ : SCall)], wr (last + k1)) t6 o6 := g1.1.bnd (g2.1.bnd (g3.1.bnd (g4.1.bnd ((g5.1.bnd g6.1).bnd PRes.giv))))
              have hlen : (l ++ [(⟨x, wr (last + k1), wr (wr (last + k1) + k2), k3, k4⟩ : SCall)]).length = l.length + 1 := by simp
              refine S_nil (nextK7 (kf := [(12, 14), (132, 172)]) (kl := [(5, 5), (12, 14), (22, 22), (132, 172), (911, 911)]) (m - 1) (l ++ [(⟨x, wr (last + k1), wr (wr (last + k1) + k2), k3, k4⟩ : SCall)]) (wr (last + k1)) t6 o6 A171 c171 (by repeat (first | exact kf_nil | (apply kf_in; focus rfl) | (apply kf_out; focus rfl))) (by repeat (first | exact kl_none | exact kl_tail (by assumption) rfl (by repeat (first | exact ti_refl | (apply ti_cons; focus rfl))) | refine kl_cons rfl rfl ?_)) ?_ ?_ ?_ ?_)
              · omega
              · exact ⟨by omega, hp2.next hm hok hr, fun h => by have := less_of (one := oneC) oneC_less hr h; omega, ⟨by omega, all_snoc rfl hp4.2 (by show x.length ≤ 1000000; omega)⟩, by omega⟩
              · exact ⟨rfl, rfl, trivial⟩
              · exact ⟨rfl, rfl, rfl, trivial⟩
            · skip
              have h11 : PRes (lst oneC ([], 0)) s9 ok9 (l, last) t ok := h10.1.bnd (hp2.done (end_list h140))
              have hrd := read_fin h1.1 (h2.1.bnd (h3.1.bnd (h5.bnd (h7.bnd (h9.bnd (h11.bnd PRes.giv))))))
              have hsm : (OT.mk id n fA fc fl uA uc ul rA rc rl A c l).small := ⟨by show id.length ≤ 1000000; omega, hz5, hz7, hz9.1, hp4⟩
              refine T_exit_go (fun _ _ h => h) ?_
              refine T_seq ?_
              refine T_seq ?_
              refine T_region ?_
              refine S_ 173 rfl rfl rfl _ (y_move rfl rfl) ?_
              refine S_ 174 rfl rfl rfl _ (y_nilCheck rfl rfl) ?_
              refine S_ 175 rfl rfl rfl _ (y_fieldAddr rfl rfl fa118_1) ?_
              refine S_ 176 rfl rfl rfl _ (y_load 22 rfl rfl rfl rfl Tryd.underlying4 rfl) ?_
              refine S_ 177 rfl rfl rfl _ (y_move rfl rfl) ?_
              refine Sg_ 178 rfl rfl rfl rfl rfl rfl _ (y_move rfl rfl) ?_
              refine Sg_ 179 rfl rfl rfl rfl rfl rfl _ (y_nilCheck rfl rfl) ?_
              refine Sg_ 180 rfl rfl rfl rfl rfl rfl _ (y_fieldAddr rfl rfl fa118_0) ?_
              refine Sg_ 181 rfl rfl rfl rfl rfl rfl _ (y_load 22 rfl rfl rfl rfl Tryd.underlying9 rfl) ?_
              refine Sg_ 182 rfl rfl rfl rfl rfl rfl _ (y_bin rfl rfl rfl (fun _ => b_neqs)) ?_
              refine S_ 183 rfl rfl rfl _ (y_or rfl rfl rfl) ?_
              refine S_go (fun _ _ h => h) ?_
              refine T_cond rfl (fun h183 => ?_) (fun h183 => ?_)
              · skip
                rw [fin_t h183] at hrd
                refine T_seq ?_
                refine T_region ?_
                refine S_ 184 rfl rfl rfl _ (y_build (zv := .agg #[.string ⟨#[]⟩, .int .i64 0, .slice none 0 0, .slice none 0 0, .slice none 0 0, .slice none 0 0]) (pl := [(0, 1), (1, 1), (2, 1), (3, 1), (4, 1), (5, 1)]) (out := [.string ⟨#[]⟩, .int .i64 0, .slice none 0 0, .slice none 0 0, .slice none 0 0, .slice none 0 0]) rfl rfl Tryd.underlying27 z27 (by kernel_rfl) rfl) ?_
                refine S_store 2 rfl rfl rfl rfl rfl rfl sz27 rfl rfl ?_
                refine S_ 3 rfl rfl rfl _ (y_assign rfl rfl) ?_
                refine S_go (fun _ _ h => h) ?_
                refine T_ret (fun a w hF hM => hRb a w (post_cell 2 rfl rfl rfl rfl Tryd.underlying27 rfl (by exact sz27) (fun w hM => ?_) a w hF hM))
                obtain ⟨e1, e2⟩ := read_none (by omega) hrd
                exact ⟨OT0, by rw [e1]; rfl, ⟨e2.symm, OT0.sm⟩, Mem.nil4 (hM.keep (ks := [(0, 999)]) (by repeat (first | exact kl_rest (by assumption) rfl | (apply kl_in; focus rfl))) _ trivial : Mem w0 ([] ++ K) w)⟩
              · skip
                rw [fin_f h183] at hrd
                refine T_skip_go (fun _ _ h => h) ?_
                refine T_seq ?_
                refine T_seq ?_
                refine T_region ?_
                refine S_ 185 rfl rfl rfl _ (y_loadA 5 rfl rfl rfl Tryd.underlying27 rfl sz27) ?_
                refine S_ 186 rfl rfl rfl _ (y_call rfl rfl rfl cf14 (fun _ w hM => TableFault_any (OT.tab (OT.mk id n fA fc fl uA uc ul rA rc rl A c l)) w (OT.ok hM hsm rfl rfl rfl rfl))) ?_
                refine S_ 15 rfl rfl rfl _ (y_assign rfl rfl) ?_
                refine S_go (fun _ _ h => h) ?_
                refine T_seq ?_
                refine T_region ?_
                refine S_ 187 rfl rfl rfl _ (y_move rfl rfl) ?_
                refine S_ 188 rfl rfl rfl _ (y_bin rfl rfl rfl (fun _ => b_neq)) ?_
                refine S_go (fun _ _ h => h) ?_
                refine T_cond rfl (fun h188 => ?_) (fun h188 => ?_)
                · try simp only [decide_eq_true_eq, decide_eq_false_iff_not, Bool.or_eq_true, Bool.or_eq_false_iff, Bool.and_eq_true, Bool.and_eq_false_iff, Bool.not_eq_true', Bool.not_eq_false', Bool.not_eq_true, Bool.not_eq_false, Bool.not_true, Bool.not_false, Int.not_lt, Int.not_le, not_or, not_and, Classical.not_not] at h188
                  refine T_seq ?_
                  refine T_region ?_
                  refine S_ 189 rfl rfl rfl _ (y_build (zv := .agg #[.string ⟨#[]⟩, .int .i64 0, .slice none 0 0, .slice none 0 0, .slice none 0 0, .slice none 0 0]) (pl := [(0, 1), (1, 1), (2, 1), (3, 1), (4, 1), (5, 1)]) (out := [.string ⟨#[]⟩, .int .i64 0, .slice none 0 0, .slice none 0 0, .slice none 0 0, .slice none 0 0]) rfl rfl Tryd.underlying27 z27 (by kernel_rfl) rfl) ?_
                  refine S_ 190 rfl rfl rfl _ (y_move rfl rfl) ?_
                  refine S_store 2 rfl rfl rfl rfl rfl rfl sz27 rfl rfl ?_
                  refine S_ 3 rfl rfl rfl _ (y_assign rfl rfl) ?_
                  refine S_go (fun _ _ h => h) ?_
                  refine T_ret (fun a w hF hM => hRb a w (post_cell 2 rfl rfl rfl rfl Tryd.underlying27 rfl (by exact sz27) (fun w hM => ?_) a w hF hM))
                  obtain ⟨e1, e2⟩ := read_some (by omega) hrd
                  have hk := OT.ok hM hsm rfl rfl rfl rfl
                  have hnp := tabNo_pl hk
                  change tabNo (OT.mk id n fA fc fl uA uc ul rA rc rl A c l).tab = tabNoP ⟨id, n, fl, ul, rl, l⟩ at hnp
                  rw [← hnp] at e1 e2
                  exact ⟨OT0, by rw [e1]; rfl, ⟨by rw [e2, if_neg h188]; rfl, OT0.sm⟩, Mem.nil4 (hM.keep (ks := [(0, 999)]) (by repeat (first | exact kl_rest (by assumption) rfl | (apply kl_in; focus rfl))) _ trivial : Mem w0 ([] ++ K) w)⟩
                · try simp only [decide_eq_true_eq, decide_eq_false_iff_not, Bool.or_eq_true, Bool.or_eq_false_iff, Bool.and_eq_true, Bool.and_eq_false_iff, Bool.not_eq_true', Bool.not_eq_false', Bool.not_eq_true, Bool.not_eq_false, Bool.not_true, Bool.not_false, Int.not_lt, Int.not_le, not_or, not_and, Classical.not_not] at h188
                  refine T_skip_go (fun _ _ h => h) ?_
                  refine T_seq ?_
                  refine T_region ?_
                  refine S_ 191 rfl rfl rfl _ (y_loadA 5 rfl rfl rfl Tryd.underlying27 rfl sz27) ?_
                  refine S_store 2 rfl rfl rfl rfl rfl rfl sz27 rfl rfl ?_
                  refine S_ 3 rfl rfl rfl _ (y_assign rfl rfl) ?_
                  refine S_go (fun _ _ h => h) ?_
                  refine T_ret (fun a w hF hM => hRb a w (post_cell 2 rfl rfl rfl rfl Tryd.underlying27 rfl (by exact sz27) (fun w hM => ?_) a w hF hM))
                  obtain ⟨e1, e2⟩ := read_some (by omega) hrd
                  have hk := OT.ok hM hsm rfl rfl rfl rfl
                  have hnp := tabNo_pl hk
                  change tabNo (OT.mk id n fA fc fl uA uc ul rA rc rl A c l).tab = tabNoP ⟨id, n, fl, ul, rl, l⟩ at hnp
                  rw [← hnp] at e1 e2
                  exact ⟨OT.mk id n fA fc fl uA uc ul rA rc rl A c l, by rw [e1, h188]; rfl, ⟨by rw [e2, if_pos h188]; rfl, hsm⟩, hM.keep (ks := [(0, 999)]) (by repeat (first | exact kl_rest (by assumption) rfl | (apply kl_in; focus rfl))) _ ⟨rfl, rfl, rfl, rfl, trivial⟩⟩
end Go.Proofs.YtofolhnecfkjkaaDoor
