/- Part 8, merged by a program. The law SymbolPlaces: At, Lines, Shares and Differ are those of the reference. Conditions: those of each theorem. Number, and that the package is there at all. No condition. The law SymbolCovers walked; the sort of Shares is a premise (SortsShares). The law SymbolPlaces walked. Conditions: those of each theorem. Tables and modules opened: from the form's reading to 'Tab.Ok'. No condition. -/
import Derived.Test.YtkkngcdikbhkjaaGreatDoorEqS
import Derived.Test.YtkkngcdikbhkjaaGreatDoorOpen
import Derived.Test.YtkkngcdikbhkjaaGreatDoorPk7
section
namespace Go.Proofs.YtkkngcdikbhkjaaGreatDoor
set_option linter.unusedSimpArgs false
set_option linter.unusedVariables false
set_option maxRecDepth 20000
open Go.RowKit Go.Eng
set_option maxHeartbeats 3200000 in
theorem TablesDiffer_any (t u : Tab) (w : World) (hok : t.Ok w) (hou : u.Ok w) (h20 : tabNo t = 0) (h25 : tabNo u = 0) (hP : P10 w) :
    Calls Tryz.prog 69 #[.agg #[str t.id, .int .i64 t.size, .slice t.fi.A t.fi.q t.fi.c, .slice t.fu.A t.fu.q t.fu.c, .slice t.ro.A t.ro.q t.ro.c, .slice t.ca.A t.ca.q t.ca.c], .agg #[str u.id, .int .i64 u.size, .slice u.fi.A u.fi.q u.fi.c, .slice u.fu.A u.fu.q u.fu.c, .slice u.ro.A u.ro.q u.ro.c, .slice u.ca.A u.ca.q u.ca.c]] w fun e w' => ∃ A c, e = .returned (.slice A (difO t u).length c) ∧
      w'.ownsRow w.heap.size 9 1 (.slice A (difO t u).length c) (difO t u).length ((difO t u).flatMap strEnc) ∧ Below w.heap.size w w' := by
  have hq := hok.small
  have hqu := hou.small
  have htt := hok.fu.t
  have hut := hou.fu.t
  obtain ⟨hst, hqt, hft⟩ := funcs_size h20
  obtain ⟨hsu, hqu2, hfu⟩ := funcs_size h25
  have htl := hok.fu.t.len
  have hul := hou.fu.t.len
  have hlt : (szT t).length ≤ t.fu.l.length := by have := szM_len t.fu.l []; simpa [szT] using this
  have hlu : (szT u).length ≤ u.fu.l.length := by have := szM_len u.fu.l []; simpa [szT] using this
  have hNl := difNs_len t u
  refine enter_args (args := [.agg #[str t.id, .int .i64 t.size, .slice t.fi.A t.fi.q t.fi.c, .slice t.fu.A t.fu.q t.fu.c, .slice t.ro.A t.ro.q t.ro.c, .slice t.ca.A t.ca.q t.ca.c], .agg #[str u.id, .int .i64 u.size, .slice u.fi.A u.fi.q u.fi.c, .slice u.fu.A u.fu.q u.fu.c, .slice u.ro.A u.ro.q u.ro.c, .slice u.ca.A u.ca.q u.ca.c]]) (F := _) Tryz.func69 rfl Tryz.ntmps69 rfl rfl ?_
  intro Rb hRb hRn
  refine T_seq ?_
  refine T_region ?_
  refine S_box 2 2 rfl rfl rfl rfl rfl ?_
  intro b2
  refine S_box 3 3 rfl rfl rfl rfl rfl ?_
  intro b3
  refine S_nilSlice 4 (e := 9) (size := 1) ?_
  refine S_ 4 rfl rfl rfl _ (y_assign rfl rfl) ?_
  refine S_go (fun _ _ h => h) ?_
  refine T_seq ?_
  refine T_region ?_
  refine S_alloc 5 5 rfl rfl rfl rfl z257 ?_
  intro b5
  refine S_go (fun _ _ h => h) ?_
  refine T_seq ?_
  refine T_region ?_
  refine S_nilSlice 6 (e := 9) (size := 1) ?_
  refine S_ 6 rfl rfl rfl _ (y_assign rfl rfl) ?_
  refine S_go (fun _ _ h => h) ?_
  refine T_seq ?_
  refine T_seq ?_
  refine T_region ?_
  refine S_ 16 rfl rfl rfl _ (y_loadA 2 rfl rfl rfl Tryz.underlying62 rfl sz62) ?_
  refine S_ 17 rfl rfl rfl _ (y_loadA 3 rfl rfl rfl Tryz.underlying62 rfl sz62) ?_
  refine S_buildSlice 18 18 rfl rfl rfl rfl rfl Tryz.underlying258 inf62 rfl (by decide) (by decide) rfl rfl (by decide) rfl ([t, u].flatMap Tab.enc) ?_ ?_
  · rfl
  intro b18
  refine S_ 19 rfl rfl rfl _ (y_len_slice rfl rfl Tryz.underlying258) ?_
  refine S_ 20 rfl rfl rfl _ (y_move rfl rfl) ?_
  refine S_go (fun _ _ h => h) ?_
  refine T_block ?_
  refine T_rounds (Nat.succ (Nat.succ Nat.zero)) ?_
  refine T_seq ?_
  refine T_region ?_
  refine S_ 21 rfl rfl rfl _ (y_bin rfl rfl rfl (fun _ => b_lss)) ?_
  refine S_go (fun _ _ h => h) ?_
  refine T_seq ?_
  refine T_cond rfl (fun h21 => ?_) (fun h21 => ?_)
  · skip
    refine T_skip_go (fun _ _ h => h) ?_
    refine T_seq ?_
    refine T_block ?_
    refine T_seq ?_
    refine T_region ?_
    refine S_ 22 rfl rfl rfl _ (y_move rfl rfl) ?_
    refine S_ 23 rfl rfl rfl _ (y_indexOwnI (j := 0) 18 rfl rfl rfl (fun _ => rfl) rfl Tryz.underlying258 sz62 (fun _ => by omega)) ?_
    refine S_ 24 rfl rfl rfl _ (y_loadO 18 rfl rfl rfl rfl (fun _ => rfl) (fun _ => rfl) Tryz.underlying62 rfl sz62) ?_
    refine S_alloc 8 8 rfl rfl rfl rfl z62 ?_
    intro b8
    refine S_ 7 rfl rfl rfl _ (y_assign rfl rfl) ?_
    refine S_store 8 rfl rfl rfl rfl rfl rfl sz62 rfl rfl ?_
    refine S_go (fun _ _ h => h) ?_
    refine T_seq ?_
    refine T_region ?_
    refine S_ 25 rfl rfl rfl _ (y_move rfl rfl) ?_
    refine S_makeMap 26 26 (fun l : List UInt8 => str l) rfl rfl rfl rfl ?_
    intro b26
    refine S_ 27 rfl rfl rfl _ (y_indexArr (j := 0) rfl rfl rfl Tryz.underlying257 (by decide) sz204 (fun _ => by decide)) ?_
    refine S_store 5 rfl rfl rfl rfl rfl rfl sz204 rfl rfl ?_
    refine S_go (fun _ _ h => h) ?_
    refine T_seq ?_
    refine T_region ?_
    have hxt := htt
    refine S_ 28 rfl rfl rfl _ (y_fieldAddr rfl rfl fa62_3) ?_
    refine S_ 29 rfl rfl rfl _ (y_load 8 rfl rfl rfl rfl Tryz.underlying58 rfl) ?_
    refine S_ 30 rfl rfl rfl _ (y_len_slice rfl rfl Tryz.underlying58) ?_
    refine S_ 31 rfl rfl rfl _ (y_move rfl rfl) ?_
    refine S_go (fun _ _ h => h) ?_
    refine T_block ?_
    refine T_loopK6 (kf := [(6, 6), (10, 10), (31, 52)]) (kl := [(6, 6), (10, 10), (26, 26), (31, 52)]) (fun (i : Nat) (M : List (Nm × Int)) (N : List Nm) (q : Nat) (A : Option Addr) (c : Nat) => [(31, true, .int .i64 (i : Int)), (6, true, .slice A q c)]) (fun (i : Nat) (M : List (Nm × Int)) (N : List Nm) (q : Nat) (A : Option Addr) (c : Nat) => [(26, .blk b26 (IsMap (fun l : List UInt8 => str l) (M.map mi))), (6, .own 9 1 (.slice A q c) q (N.flatMap strEnc))]) (fun (i : Nat) (M : List (Nm × Int)) (N : List Nm) (q : Nat) (A : Option Addr) (c : Nat) => i ≤ t.fu.q ∧ szM (t.fu.l.drop i) M = szT t ∧ InB ((i : Int) * 4294967296) M ∧ M.length ≤ i ∧ N = (t.fu.l.take i).map SFunc.name ∧ N.length = q ∧ q = i) (fun (i : Nat) (M : List (Nm × Int)) (N : List Nm) (q : Nat) (A : Option Addr) (c : Nat) => t.fu.q - i) 0 [] [] 0 none 0 (by repeat (first | exact kf_nil | (apply kf_in; focus rfl) | (apply kf_out; focus rfl))) (by repeat (first | exact kl_nil | exact kl_rest (by assumption) rfl | (apply kl_in; focus rfl) | (apply kl_out; focus rfl))) ?_ ?_ ?_ ?_
    · exact ⟨by omega, rfl, inB_nil.mono (by omega), by simp, rfl, rfl, rfl⟩
    · exact ⟨rfl, rfl, trivial⟩
    · exact ⟨rfl, rfl, trivial⟩
    rintro i M N q A c ⟨hp1, hp2, hp3, hp4, hp5, hp6, hp7⟩
    refine T_seq ?_
    refine T_region ?_
    refine S_ 32 rfl rfl rfl _ (y_bin rfl rfl rfl (fun _ => b_lss)) ?_
    refine S_go (fun _ _ h => h) ?_
    refine T_seq ?_
    refine T_cond rfl (fun h32 => ?_) (fun h32 => ?_)
    · try simp only [decide_eq_true_eq, decide_eq_false_iff_not, Bool.or_eq_true, Bool.or_eq_false_iff, Bool.and_eq_true, Bool.and_eq_false_iff, Bool.not_eq_true', Bool.not_eq_false', Bool.not_eq_true, Bool.not_eq_false, Bool.not_true, Bool.not_false, Int.not_lt, Int.not_le, not_or, not_and, Classical.not_not] at h32
      obtain ⟨g, hx1, hx2⟩ := htt.at (i := i) (by omega)
      have hgs := (hft g (mem_at hx1)).1
      have hgi := hp3 g.name
      refine T_skip_go (fun _ _ h => h) ?_
      refine T_seq ?_
      refine T_block ?_
      refine T_seq ?_
      refine T_region ?_
      refine S_ 33 rfl rfl rfl _ (y_indexAddr rfl rfl rfl Tryz.underlying58 sz196 (fun hg => hxt.isSome (by omega)) (fun _ => by omega)) ?_
      refine S_ 34 rfl rfl rfl _ (y_loadT rfl rfl hxt (fun _ => rfl) (fun _ => hx1) Tryz.underlying196 rfl sz196) ?_
      refine S_alloc 10 10 rfl rfl rfl rfl z196 ?_
      intro b10
      refine S_store 10 rfl rfl rfl rfl rfl rfl sz196 rfl rfl ?_
      refine S_go (fun _ _ h => h) ?_
      refine T_seq ?_
      refine T_drawsTail 12 (by kernel_rfl) (by kernel_rfl) ?_
      refine D_ 35 rfl rfl rfl _ (y_move rfl rfl) ?_
      refine D_ 36 rfl rfl rfl _ (y_indexArr (j := 0) rfl rfl rfl Tryz.underlying257 (by decide) sz204 (fun _ => by decide)) ?_
      refine D_ 37 rfl rfl rfl _ (y_load 5 rfl rfl rfl rfl Tryz.underlying204 rfl) ?_
      refine D_ 38 rfl rfl rfl _ (y_fieldAddr rfl rfl fa196_0) ?_
      refine D_ 39 rfl rfl rfl _ (y_load 10 rfl rfl rfl rfl Tryz.underlying9 rfl) ?_
      refine D_ 40 rfl rfl rfl _ (y_as (v' := .int .i64 (gi M g.name)) (by exact mget_mi _ _) (y_lookup 26 (enc := fun l : List UInt8 => str l) rfl rfl rfl rfl Tryz.underlying204 Tryz.underlying9 rfl same_str z3)) ?_
      refine D_ 41 rfl rfl rfl _ (y_fieldAddr rfl rfl fa196_2) ?_
      refine D_ 42 rfl rfl rfl _ (y_load 10 rfl rfl rfl rfl Tryz.underlying3 rfl) ?_
      refine D_ 43 rfl rfl rfl _ (y_fieldAddr rfl rfl fa196_1) ?_
      refine D_ 44 rfl rfl rfl _ (y_load 10 rfl rfl rfl rfl Tryz.underlying3 rfl) ?_
      refine D_ 45 rfl rfl rfl _ (y_bin rfl rfl rfl (fun hg => b_sub (by omega))) ?_
      refine D_ 46 rfl rfl rfl _ (y_bin rfl rfl rfl (fun hg => b_add (by omega))) ?_
      refine D_tail ?_
      refine S_mapUpdate 26 (enc := fun l : List UInt8 => str l) rfl rfl rfl rfl rfl rfl rfl Tryz.underlying204 Tryz.underlying9 rfl same_str fits_str (mput_mi _ _ _) ?_
      refine S_go (fun _ _ h => h) ?_
      refine T_region ?_
      refine S_ 47 rfl rfl rfl _ (y_move rfl rfl) ?_
      refine S_ 48 rfl rfl rfl _ (y_fieldAddr rfl rfl fa196_0) ?_
      refine S_ 49 rfl rfl rfl _ (y_load 10 rfl rfl rfl rfl Tryz.underlying9 rfl) ?_
      refine S_buildSlice 50 50 rfl rfl rfl rfl rfl Tryz.underlying57 inf9 rfl (by decide) (by decide) rfl rfl (by decide) rfl (_) rfl ?_
      intro b50
      obtain ⟨i51, hi51, hz51, hs51, hy51⟩ := info_parts inf9
      refine S_append 51 6 50 rfl rfl rfl rfl rfl rfl rfl rfl Tryz.underlying57 hi51 hz51 hs51 hy51 rfl (by decide) (by decide) rfl ?_ ?_ (q + 1) ((N ++ [g.name]).flatMap strEnc) ?_ ?_ ?_
      · (simp only [maxLen]; omega)
      · omega
      · rfl
      · simp [List.flatMap_append, strEnc]; rfl
      intro A51 c51
      refine S_ 6 rfl rfl rfl _ (y_assign rfl rfl) ?_
      refine S_go (fun _ _ h => h) ?_
      refine T_region ?_
      refine S_ 52 rfl rfl rfl _ (y_bin rfl rfl rfl (fun hg => b_add (by omega))) ?_
      refine S_ 31 rfl rfl rfl _ (y_move rfl rfl) ?_
      refine S_nil (nextK6 (kf := [(6, 6), (10, 10), (31, 52)]) (kl := [(6, 6), (10, 10), (26, 26), (31, 52)]) (i + 1) (pi' M g.name (gi M g.name + (g.tu - g.fr))) (N ++ [g.name]) (q + 1) A51 c51 (by repeat (first | exact kf_nil | (apply kf_in; focus rfl) | (apply kf_out; focus rfl))) (by repeat (first | exact kl_nil | exact kl_rest (by assumption) rfl | (apply kl_in; focus rfl) | (apply kl_out; focus rfl))) ?_ ?_ ?_ ?_)
      · omega
      · exact ⟨by omega, by rw [← hp2, hx2, szM], (hp3.put (by omega)).mono (by omega), by have := len_put g.name (gi M g.name + (g.tu - g.fr)) M; omega, by rw [take_succ_at hx1, List.map_append, ← hp5]; rfl, by simp [hp6], by omega⟩
      · exact ⟨rfl, rfl, trivial⟩
      · exact ⟨rfl, rfl, trivial⟩
    · try simp only [decide_eq_true_eq, decide_eq_false_iff_not, Bool.or_eq_true, Bool.or_eq_false_iff, Bool.and_eq_true, Bool.and_eq_false_iff, Bool.not_eq_true', Bool.not_eq_false', Bool.not_eq_true, Bool.not_eq_false, Bool.not_true, Bool.not_false, Int.not_lt, Int.not_le, not_or, not_and, Classical.not_not] at h32
      have hMt : szT t = M := by rw [← hp2, htt.end (by omega)]; rfl
      have hNt : N = t.fu.l.map SFunc.name := by rw [hp5, List.take_of_length_le (by omega)]
      have hBt : InB 4294967296000 (szT t) := by rw [hMt]; exact hp3.mono (by omega)
      refine T_exit_go (fun _ _ h => h) ?_
      refine T_region ?_
      refine S_ 53 rfl rfl rfl _ (y_as (v' := .int .i64 1) (by exact rfl) (y_bin rfl rfl rfl (fun hg => b_add (by omega)))) ?_
      refine S_ 20 rfl rfl rfl _ (y_move rfl rfl) ?_
      refine S_go (fun _ _ h => h) ?_
      refine T_seq ?_
      refine T_region ?_
      refine S_ 21 rfl rfl rfl _ (y_bin rfl rfl rfl (fun _ => b_lss)) ?_
      refine S_go (fun _ _ h => h) ?_
      refine T_seq ?_
      refine T_cond rfl (fun h21 => ?_) (fun h21 => ?_)
      · skip
        refine T_skip_go (fun _ _ h => h) ?_
        refine T_seq ?_
        refine T_block ?_
        refine T_seq ?_
        refine T_region ?_
        refine S_move [(26, 26)] 971 26 rfl rfl (by repeat (first | exact kl_nil | exact kl_rest (by assumption) rfl | (apply kl_in; focus rfl) | (apply kl_out; focus rfl))) ?_
        refine S_ 22 rfl rfl rfl _ (y_move rfl rfl) ?_
        refine S_ 23 rfl rfl rfl _ (y_indexOwnI (j := 1) 18 rfl rfl rfl (fun _ => rfl) rfl Tryz.underlying258 sz62 (fun _ => by omega)) ?_
        refine S_ 24 rfl rfl rfl _ (y_loadO 18 rfl rfl rfl rfl (fun _ => rfl) (fun _ => rfl) Tryz.underlying62 rfl sz62) ?_
        refine S_alloc 8 8 rfl rfl rfl rfl z62 ?_
        intro b8
        refine S_ 7 rfl rfl rfl _ (y_assign rfl rfl) ?_
        refine S_store 8 rfl rfl rfl rfl rfl rfl sz62 rfl rfl ?_
        refine S_go (fun _ _ h => h) ?_
        refine T_seq ?_
        refine T_region ?_
        refine S_ 25 rfl rfl rfl _ (y_move rfl rfl) ?_
        refine S_makeMap 26 26 (fun l : List UInt8 => str l) rfl rfl rfl rfl ?_
        intro b26
        refine S_ 27 rfl rfl rfl _ (y_indexArr (j := 1) rfl rfl rfl Tryz.underlying257 (by decide) sz204 (fun _ => by decide)) ?_
        refine S_store 5 rfl rfl rfl rfl rfl rfl sz204 rfl rfl ?_
        refine S_go (fun _ _ h => h) ?_
        refine T_seq ?_
        refine T_region ?_
        clear hxt
        have hxt := hut
        refine S_ 28 rfl rfl rfl _ (y_fieldAddr rfl rfl fa62_3) ?_
        refine S_ 29 rfl rfl rfl _ (y_load 8 rfl rfl rfl rfl Tryz.underlying58 rfl) ?_
        refine S_ 30 rfl rfl rfl _ (y_len_slice rfl rfl Tryz.underlying58) ?_
        refine S_ 31 rfl rfl rfl _ (y_move rfl rfl) ?_
        refine S_go (fun _ _ h => h) ?_
        refine T_block ?_
        refine T_loopK6 (kf := [(6, 6), (10, 10), (31, 52)]) (kl := [(6, 6), (10, 10), (26, 26), (31, 52)]) (fun (j : Nat) (M2 : List (Nm × Int)) (N2 : List Nm) (q : Nat) (A : Option Addr) (c : Nat) => [(31, true, .int .i64 (j : Int)), (6, true, .slice A q c)]) (fun (j : Nat) (M2 : List (Nm × Int)) (N2 : List Nm) (q : Nat) (A : Option Addr) (c : Nat) => [(26, .blk b26 (IsMap (fun l : List UInt8 => str l) (M2.map mi))), (6, .own 9 1 (.slice A q c) q (N2.flatMap strEnc))]) (fun (j : Nat) (M2 : List (Nm × Int)) (N2 : List Nm) (q : Nat) (A : Option Addr) (c : Nat) => j ≤ u.fu.q ∧ szM (u.fu.l.drop j) M2 = szT u ∧ InB ((j : Int) * 4294967296) M2 ∧ M2.length ≤ j ∧ N2 = N ++ (u.fu.l.take j).map SFunc.name ∧ N2.length = q ∧ q = t.fu.q + j) (fun (j : Nat) (M2 : List (Nm × Int)) (N2 : List Nm) (q : Nat) (A : Option Addr) (c : Nat) => u.fu.q - j) 0 [] N q A c (by repeat (first | exact kf_nil | (apply kf_in; focus rfl) | (apply kf_out; focus rfl))) (by repeat (first | exact kl_nil | exact kl_rest (by assumption) rfl | (apply kl_in; focus rfl) | (apply kl_out; focus rfl))) ?_ ?_ ?_ ?_
        · exact ⟨by omega, rfl, inB_nil.mono (by omega), by simp, by simp, hp6, by omega⟩
        · exact ⟨rfl, rfl, trivial⟩
        · exact ⟨rfl, rfl, trivial⟩
        rintro j M2 N2 q A c ⟨hn1, hn2, hn3, hn4, hn5, hn6, hn7⟩
        refine T_seq ?_
        refine T_region ?_
        refine S_ 32 rfl rfl rfl _ (y_bin rfl rfl rfl (fun _ => b_lss)) ?_
        refine S_go (fun _ _ h => h) ?_
        refine T_seq ?_
        refine T_cond rfl (fun h32 => ?_) (fun h32 => ?_)
        · try simp only [decide_eq_true_eq, decide_eq_false_iff_not, Bool.or_eq_true, Bool.or_eq_false_iff, Bool.and_eq_true, Bool.and_eq_false_iff, Bool.not_eq_true', Bool.not_eq_false', Bool.not_eq_true, Bool.not_eq_false, Bool.not_true, Bool.not_false, Int.not_lt, Int.not_le, not_or, not_and, Classical.not_not] at h32
          obtain ⟨g, hx1, hx2⟩ := hut.at (i := j) (by omega)
          have hgs := (hfu g (mem_at hx1)).1
          have hgi := hn3 g.name
          refine T_skip_go (fun _ _ h => h) ?_
          refine T_seq ?_
          refine T_block ?_
          refine T_seq ?_
          refine T_region ?_
          refine S_ 33 rfl rfl rfl _ (y_indexAddr rfl rfl rfl Tryz.underlying58 sz196 (fun hg => hxt.isSome (by omega)) (fun _ => by omega)) ?_
          refine S_ 34 rfl rfl rfl _ (y_loadT rfl rfl hxt (fun _ => rfl) (fun _ => hx1) Tryz.underlying196 rfl sz196) ?_
          refine S_alloc 10 10 rfl rfl rfl rfl z196 ?_
          intro b10
          refine S_store 10 rfl rfl rfl rfl rfl rfl sz196 rfl rfl ?_
          refine S_go (fun _ _ h => h) ?_
          refine T_seq ?_
          refine T_drawsTail 12 (by kernel_rfl) (by kernel_rfl) ?_
          refine D_ 35 rfl rfl rfl _ (y_move rfl rfl) ?_
          refine D_ 36 rfl rfl rfl _ (y_indexArr (j := 1) rfl rfl rfl Tryz.underlying257 (by decide) sz204 (fun _ => by decide)) ?_
          refine D_ 37 rfl rfl rfl _ (y_load 5 rfl rfl rfl rfl Tryz.underlying204 rfl) ?_
          refine D_ 38 rfl rfl rfl _ (y_fieldAddr rfl rfl fa196_0) ?_
          refine D_ 39 rfl rfl rfl _ (y_load 10 rfl rfl rfl rfl Tryz.underlying9 rfl) ?_
          refine D_ 40 rfl rfl rfl _ (y_as (v' := .int .i64 (gi M2 g.name)) (by exact mget_mi _ _) (y_lookup 26 (enc := fun l : List UInt8 => str l) rfl rfl rfl rfl Tryz.underlying204 Tryz.underlying9 rfl same_str z3)) ?_
          refine D_ 41 rfl rfl rfl _ (y_fieldAddr rfl rfl fa196_2) ?_
          refine D_ 42 rfl rfl rfl _ (y_load 10 rfl rfl rfl rfl Tryz.underlying3 rfl) ?_
          refine D_ 43 rfl rfl rfl _ (y_fieldAddr rfl rfl fa196_1) ?_
          refine D_ 44 rfl rfl rfl _ (y_load 10 rfl rfl rfl rfl Tryz.underlying3 rfl) ?_
          refine D_ 45 rfl rfl rfl _ (y_bin rfl rfl rfl (fun hg => b_sub (by omega))) ?_
          refine D_ 46 rfl rfl rfl _ (y_bin rfl rfl rfl (fun hg => b_add (by omega))) ?_
          refine D_tail ?_
          refine S_mapUpdate 26 (enc := fun l : List UInt8 => str l) rfl rfl rfl rfl rfl rfl rfl Tryz.underlying204 Tryz.underlying9 rfl same_str fits_str (mput_mi _ _ _) ?_
          refine S_go (fun _ _ h => h) ?_
          refine T_region ?_
          refine S_ 47 rfl rfl rfl _ (y_move rfl rfl) ?_
          refine S_ 48 rfl rfl rfl _ (y_fieldAddr rfl rfl fa196_0) ?_
          refine S_ 49 rfl rfl rfl _ (y_load 10 rfl rfl rfl rfl Tryz.underlying9 rfl) ?_
          refine S_buildSlice 50 50 rfl rfl rfl rfl rfl Tryz.underlying57 inf9 rfl (by decide) (by decide) rfl rfl (by decide) rfl (_) rfl ?_
          intro b50
          obtain ⟨i51, hi51, hz51, hs51, hy51⟩ := info_parts inf9
          refine S_append 51 6 50 rfl rfl rfl rfl rfl rfl rfl rfl Tryz.underlying57 hi51 hz51 hs51 hy51 rfl (by decide) (by decide) rfl ?_ ?_ (q + 1) ((N2 ++ [g.name]).flatMap strEnc) ?_ ?_ ?_
          · (simp only [maxLen]; omega)
          · omega
          · rfl
          · simp [List.flatMap_append, strEnc]; rfl
          intro A51 c51
          refine S_ 6 rfl rfl rfl _ (y_assign rfl rfl) ?_
          refine S_go (fun _ _ h => h) ?_
          refine T_region ?_
          refine S_ 52 rfl rfl rfl _ (y_bin rfl rfl rfl (fun hg => b_add (by omega))) ?_
          refine S_ 31 rfl rfl rfl _ (y_move rfl rfl) ?_
          refine S_nil (nextK6 (kf := [(6, 6), (10, 10), (31, 52)]) (kl := [(6, 6), (10, 10), (26, 26), (31, 52)]) (j + 1) (pi' M2 g.name (gi M2 g.name + (g.tu - g.fr))) (N2 ++ [g.name]) (q + 1) A51 c51 (by repeat (first | exact kf_nil | (apply kf_in; focus rfl) | (apply kf_out; focus rfl))) (by repeat (first | exact kl_nil | exact kl_rest (by assumption) rfl | (apply kl_in; focus rfl) | (apply kl_out; focus rfl))) ?_ ?_ ?_ ?_)
          · omega
          · exact ⟨by omega, by rw [← hn2, hx2, szM], (hn3.put (by omega)).mono (by omega), by have := len_put g.name (gi M2 g.name + (g.tu - g.fr)) M2; omega, by rw [take_succ_at hx1, List.map_append, hn5, List.append_assoc]; rfl, by simp [hn6], by omega⟩
          · exact ⟨rfl, rfl, trivial⟩
          · exact ⟨rfl, rfl, trivial⟩
        · try simp only [decide_eq_true_eq, decide_eq_false_iff_not, Bool.or_eq_true, Bool.or_eq_false_iff, Bool.and_eq_true, Bool.and_eq_false_iff, Bool.not_eq_true', Bool.not_eq_false', Bool.not_eq_true, Bool.not_eq_false, Bool.not_true, Bool.not_false, Int.not_lt, Int.not_le, not_or, not_and, Classical.not_not] at h32
          have hMu : szT u = M2 := by rw [← hn2, hut.end (by omega)]; rfl
          have hNu : N2 = namesF t u := by rw [hn5, List.take_of_length_le (by omega), hNt]; rfl
          have hBu : InB 4294967296000 (szT u) := by rw [hMu]; exact hn3.mono (by omega)
          have hcN : cptG [] (srtS N2) = difNs t u := by rw [hNu]; rfl
          refine T_exit_go (fun _ _ h => h) ?_
          refine T_region ?_
          refine S_ 53 rfl rfl rfl _ (y_as (v' := .int .i64 2) (by exact rfl) (y_bin rfl rfl rfl (fun hg => b_add (by omega)))) ?_
          refine S_ 20 rfl rfl rfl _ (y_move rfl rfl) ?_
          refine S_go (fun _ _ h => h) ?_
          refine T_seq ?_
          refine T_region ?_
          refine S_ 21 rfl rfl rfl _ (y_bin rfl rfl rfl (fun _ => b_lss)) ?_
          refine S_go (fun _ _ h => h) ?_
          refine T_seq ?_
          refine T_cond rfl (fun h21 => ?_) (fun h21 => ?_)
          · skip
            simp at h21
          · skip
            refine T_exit_go (fun _ _ h => h) ?_
            refine T_seq ?_
            refine T_region ?_
            refine S_ 54 rfl rfl rfl _ (y_move rfl rfl) ?_
            refine S_callM 55 [(0, 6)] (X := Unit) rfl rfl rfl rfl rfl rfl rfl cf173 rfl (fun _ => .tuple #[]) (fun _ => True) (fun _ => [(0, .own 9 1 (.slice A q c) q ((srtS N2).flatMap strEnc))]) (fun _ => rfl) (fun _ => rfl) (fun K1 hK1 w1 hM => SortStr_any A q c N2 w1 hn6 (by omega) hM) ?_
            intro u55 _
            refine S_go (fun _ _ h => h) ?_
            refine T_seq ?_
            refine T_region ?_
            refine S_nilSlice 11 (e := 9) (size := 1) ?_
            refine S_ 11 rfl rfl rfl _ (y_assign rfl rfl) ?_
            refine S_go (fun _ _ h => h) ?_
            refine T_seq ?_
            refine T_seq ?_
            refine T_region ?_
            refine S_ 56 rfl rfl rfl _ (y_move rfl rfl) ?_
            refine S_callM 57 [(0, 6)] (X := Unit) rfl rfl rfl rfl rfl rfl rfl cf174 rfl (fun _ => .slice A (difNs t u).length c) (fun _ => True) (fun _ => [(0, .own 9 1 (.slice A (difNs t u).length c) (difNs t u).length ((difNs t u).flatMap strEnc))]) (fun _ => rfl) (fun _ => rfl) (fun K1 hK1 w1 hM => by
              have h := CptStr_any A q c (srtS N2) w1 (by rw [(srtS_perm _).length_eq, hn6]) (by omega) hM
              rw [hcN] at h
              exact h) ?_
            intro u57 _
            refine S_ 58 rfl rfl rfl _ (y_len_slice rfl rfl Tryz.underlying57) ?_
            refine S_ 59 rfl rfl rfl _ (y_move rfl rfl) ?_
            refine S_go (fun _ _ h => h) ?_
            refine T_block ?_
            refine T_loopK5 (kf := [(11, 11), (13, 15), (59, 112)]) (kl := [(11, 11), (13, 15), (59, 112)]) (fun (k : Nat) (out : List Nm) (q : Nat) (A : Option Addr) (c : Nat) => [(59, true, .int .i64 (k : Int)), (11, true, .slice A q c)]) (fun (k : Nat) (out : List Nm) (q : Nat) (A : Option Addr) (c : Nat) => [(11, .own 9 1 (.slice A q c) q (out.flatMap strEnc))]) (fun (k : Nat) (out : List Nm) (q : Nat) (A : Option Addr) (c : Nat) => k ≤ (difNs t u).length ∧ out ++ difL (szT t) (szT u) ((difNs t u).drop k) = difO t u ∧ out.length = q ∧ q ≤ k) (fun (k : Nat) (out : List Nm) (q : Nat) (A : Option Addr) (c : Nat) => (difNs t u).length - k) 0 [] 0 none 0 (by repeat (first | exact kf_nil | (apply kf_in; focus rfl) | (apply kf_out; focus rfl))) (by repeat (first | exact kl_nil | exact kl_rest (by assumption) rfl | (apply kl_in; focus rfl) | (apply kl_out; focus rfl))) ?_ ?_ ?_ ?_
            · exact ⟨by omega, rfl, rfl, by omega⟩
            · exact ⟨rfl, rfl, trivial⟩
            · exact ⟨rfl, trivial⟩
            rintro k out q A c ⟨hk1, hk2, hk3, hk4⟩
            refine T_seq ?_
            refine T_region ?_
            refine S_ 60 rfl rfl rfl _ (y_bin rfl rfl rfl (fun _ => b_lss)) ?_
            refine S_go (fun _ _ h => h) ?_
            refine T_seq ?_
            refine T_cond rfl (fun h60 => ?_) (fun h60 => ?_)
            · try simp only [decide_eq_true_eq, decide_eq_false_iff_not, Bool.or_eq_true, Bool.or_eq_false_iff, Bool.and_eq_true, Bool.and_eq_false_iff, Bool.not_eq_true', Bool.not_eq_false', Bool.not_eq_true, Bool.not_eq_false, Bool.not_true, Bool.not_false, Int.not_lt, Int.not_le, not_or, not_and, Classical.not_not] at h60
              obtain ⟨n, hn1⟩ : ∃ n, (difNs t u)[k]? = some n := ⟨_, List.getElem?_eq_getElem (by omega)⟩
              have hnl : n.length ≤ 200 := by
                have h := difNs_mem (mem_at hn1)
                rw [namesF] at h
                rcases List.mem_append.1 h with h | h
                · obtain ⟨g, hg, rfl⟩ := List.mem_map.1 h; exact (hft g hg).2
                · obtain ⟨g, hg, rfl⟩ := List.mem_map.1 h; exact (hfu g hg).2
              have ht1 := hBt n
              have hu1 := hBu n
              have hi1 := Lib.itoa_length_le (gi (szT t) n) (by omega) (by omega)
              have hi2 := Lib.itoa_length_le (gi (szT u) n) (by omega) (by omega)
              refine T_skip_go (fun _ _ h => h) ?_
              refine T_seq ?_
              refine T_block ?_
              refine T_seq ?_
              refine T_region ?_
              refine S_ 61 rfl rfl rfl _ (y_indexOwn 6 rfl rfl rfl rfl Tryz.underlying57 sz9 (fun _ => by omega)) ?_
              refine S_ 62 rfl rfl rfl _ (y_loadO1 6 (val := (fun l : List UInt8 => str l)) rfl rfl rfl rfl (fun _ => hn1) Tryz.underlying9 rfl) ?_
              refine S_ 13 rfl rfl rfl _ (y_assign rfl rfl) ?_
              refine S_go (fun _ _ h => h) ?_
              refine T_seq ?_
              refine T_draws (by kernel_rfl) (by kernel_rfl) ?_
              refine D_ 63 rfl rfl rfl _ (y_indexArr (j := 0) rfl rfl rfl Tryz.underlying257 (by decide) sz204 (fun _ => by decide)) ?_
              refine D_ 64 rfl rfl rfl _ (y_load 5 rfl rfl rfl rfl Tryz.underlying204 rfl) ?_
              refine D_ 65 rfl rfl rfl _ (y_move rfl rfl) ?_
              refine D_ 66 rfl rfl rfl _ (y_as (v' := .int .i64 (gi (szT t) n)) (by rw [hMt]; exact mget_mi _ _) (y_lookup 971 (enc := fun l : List UInt8 => str l) rfl rfl rfl rfl Tryz.underlying204 Tryz.underlying9 rfl same_str z3)) ?_
              refine D_ 67 rfl rfl rfl _ (y_indexArr (j := 1) rfl rfl rfl Tryz.underlying257 (by decide) sz204 (fun _ => by decide)) ?_
              refine D_ 68 rfl rfl rfl _ (y_load 5 rfl rfl rfl rfl Tryz.underlying204 rfl) ?_
              refine D_ 69 rfl rfl rfl _ (y_move rfl rfl) ?_
              refine D_ 70 rfl rfl rfl _ (y_as (v' := .int .i64 (gi (szT u) n)) (by rw [hMu]; exact mget_mi _ _) (y_lookup 26 (enc := fun l : List UInt8 => str l) rfl rfl rfl rfl Tryz.underlying204 Tryz.underlying9 rfl same_str z3)) ?_
              refine D_ 14 rfl rfl rfl _ (y_assign rfl rfl) ?_
              refine D_ 15 rfl rfl rfl _ (y_assign rfl rfl) ?_
              refine D_go (fun _ _ h => h) ?_
              refine T_block ?_
              refine T_seq ?_
              refine T_region ?_
              refine S_ 72 rfl rfl rfl _ (y_move rfl rfl) ?_
              refine S_ 73 rfl rfl rfl _ (y_bin rfl rfl rfl (fun _ => b_eql)) ?_
              refine S_ 71 rfl rfl rfl _ (y_assign rfl rfl) ?_
              refine S_go (fun _ _ h => h) ?_
              refine T_cond rfl (fun h71 => ?_) (fun h71 => ?_)
              · try simp only [decide_eq_true_eq, decide_eq_false_iff_not, Bool.or_eq_true, Bool.or_eq_false_iff, Bool.and_eq_true, Bool.and_eq_false_iff, Bool.not_eq_true', Bool.not_eq_false', Bool.not_eq_true, Bool.not_eq_false, Bool.not_true, Bool.not_false, Int.not_lt, Int.not_le, not_or, not_and, Classical.not_not] at h71
                have hd1 : dif1 (gi (szT t) n) (gi (szT u) n) n = [[43, 32] ++ n ++ [32] ++ Lib.itoa (gi (szT u) n)] := if_pos h71
                refine T_region ?_
                refine S_ 74 rfl rfl rfl _ (y_move rfl rfl) ?_
                refine S_ 75 rfl rfl rfl _ (y_move rfl rfl) ?_
                refine S_ 76 rfl rfl rfl _ (y_bin rfl rfl rfl (fun hg => b_adds (by first | omega | (simp only [List.length_append, List.length_cons, List.length_nil]; omega)))) ?_
                refine S_ 77 rfl rfl rfl _ (y_bin rfl rfl rfl (fun hg => b_adds (by first | omega | (simp only [List.length_append, List.length_cons, List.length_nil]; omega)))) ?_
                refine S_ 78 rfl rfl rfl _ (y_move rfl rfl) ?_
                refine S_ 79 rfl rfl rfl _ (y_call rfl rfl rfl cf124 (fun _ w hM => Itoa_any _ (by omega) (by omega) w (hP.below hM.below))) ?_
                refine S_ 80 rfl rfl rfl _ (y_bin rfl rfl rfl (fun hg => b_adds (by first | omega | (simp only [List.length_append, List.length_cons, List.length_nil]; omega)))) ?_
                refine S_buildSlice 81 81 rfl rfl rfl rfl rfl Tryz.underlying57 inf9 rfl (by decide) (by decide) rfl rfl (by decide) rfl (_) rfl ?_
                intro b81
                obtain ⟨i82, hi82, hz82, hs82, hy82⟩ := info_parts inf9
                refine S_append 82 11 81 rfl rfl rfl rfl rfl rfl rfl rfl Tryz.underlying57 hi82 hz82 hs82 hy82 rfl (by decide) (by decide) rfl ?_ ?_ (q + 1) ((out ++ [[43, 32] ++ n ++ [32] ++ Lib.itoa (gi (szT u) n)]).flatMap strEnc) ?_ ?_ ?_
                · (simp only [maxLen]; omega)
                · omega
                · rfl
                · simp [List.flatMap_append, strEnc]; rfl
                intro A82 c82
                refine S_ 11 rfl rfl rfl _ (y_assign rfl rfl) ?_
                refine S_go (fun _ _ h => h) ?_
                refine T_region ?_
                refine S_ 112 rfl rfl rfl _ (y_bin rfl rfl rfl (fun hg => b_add (by omega))) ?_
                refine S_ 59 rfl rfl rfl _ (y_move rfl rfl) ?_
                refine S_nil (nextK5 (kf := [(11, 11), (13, 15), (59, 112)]) (kl := [(11, 11), (13, 15), (59, 112)]) (k + 1) (out ++ dif1 (gi (szT t) n) (gi (szT u) n) n) (q + 1) A82 c82 (by repeat (first | exact kf_nil | (apply kf_in; focus rfl) | (apply kf_out; focus rfl))) (by repeat (first | exact kl_nil | exact kl_rest (by assumption) rfl | (apply kl_in; focus rfl) | (apply kl_out; focus rfl))) ?_ ?_ ?_ ?_)
                · omega
                · exact ⟨by omega, dif_next hn1 hk2, by rw [List.length_append, hk3, hd1]; rfl, by omega⟩
                · exact ⟨rfl, rfl, trivial⟩
                · exact ⟨by rw [hd1]; rfl, trivial⟩
              · try simp only [decide_eq_true_eq, decide_eq_false_iff_not, Bool.or_eq_true, Bool.or_eq_false_iff, Bool.and_eq_true, Bool.and_eq_false_iff, Bool.not_eq_true', Bool.not_eq_false', Bool.not_eq_true, Bool.not_eq_false, Bool.not_true, Bool.not_false, Int.not_lt, Int.not_le, not_or, not_and, Classical.not_not] at h71
                refine T_seq ?_
                refine T_region ?_
                refine S_ 84 rfl rfl rfl _ (y_move rfl rfl) ?_
                refine S_ 85 rfl rfl rfl _ (y_bin rfl rfl rfl (fun _ => b_eql)) ?_
                refine S_ 83 rfl rfl rfl _ (y_assign rfl rfl) ?_
                refine S_go (fun _ _ h => h) ?_
                refine T_cond rfl (fun h83 => ?_) (fun h83 => ?_)
                · try simp only [decide_eq_true_eq, decide_eq_false_iff_not, Bool.or_eq_true, Bool.or_eq_false_iff, Bool.and_eq_true, Bool.and_eq_false_iff, Bool.not_eq_true', Bool.not_eq_false', Bool.not_eq_true, Bool.not_eq_false, Bool.not_true, Bool.not_false, Int.not_lt, Int.not_le, not_or, not_and, Classical.not_not] at h83
                  have hd1 : dif1 (gi (szT t) n) (gi (szT u) n) n = [[45, 32] ++ n ++ [32] ++ Lib.itoa (gi (szT t) n)] := (if_neg h71).trans (if_pos h83)
                  refine T_region ?_
                  refine S_ 86 rfl rfl rfl _ (y_move rfl rfl) ?_
                  refine S_ 87 rfl rfl rfl _ (y_move rfl rfl) ?_
                  refine S_ 88 rfl rfl rfl _ (y_bin rfl rfl rfl (fun hg => b_adds (by first | omega | (simp only [List.length_append, List.length_cons, List.length_nil]; omega)))) ?_
                  refine S_ 89 rfl rfl rfl _ (y_bin rfl rfl rfl (fun hg => b_adds (by first | omega | (simp only [List.length_append, List.length_cons, List.length_nil]; omega)))) ?_
                  refine S_ 90 rfl rfl rfl _ (y_move rfl rfl) ?_
                  refine S_ 91 rfl rfl rfl _ (y_call rfl rfl rfl cf124 (fun _ w hM => Itoa_any _ (by omega) (by omega) w (hP.below hM.below))) ?_
                  refine S_ 92 rfl rfl rfl _ (y_bin rfl rfl rfl (fun hg => b_adds (by first | omega | (simp only [List.length_append, List.length_cons, List.length_nil]; omega)))) ?_
                  refine S_buildSlice 93 93 rfl rfl rfl rfl rfl Tryz.underlying57 inf9 rfl (by decide) (by decide) rfl rfl (by decide) rfl (_) rfl ?_
                  intro b93
                  obtain ⟨i94, hi94, hz94, hs94, hy94⟩ := info_parts inf9
                  refine S_append 94 11 93 rfl rfl rfl rfl rfl rfl rfl rfl Tryz.underlying57 hi94 hz94 hs94 hy94 rfl (by decide) (by decide) rfl ?_ ?_ (q + 1) ((out ++ [[45, 32] ++ n ++ [32] ++ Lib.itoa (gi (szT t) n)]).flatMap strEnc) ?_ ?_ ?_
                  · (simp only [maxLen]; omega)
                  · omega
                  · rfl
                  · simp [List.flatMap_append, strEnc]; rfl
                  intro A94 c94
                  refine S_ 11 rfl rfl rfl _ (y_assign rfl rfl) ?_
                  refine S_go (fun _ _ h => h) ?_
                  refine T_region ?_
                  refine S_ 112 rfl rfl rfl _ (y_bin rfl rfl rfl (fun hg => b_add (by omega))) ?_
                  refine S_ 59 rfl rfl rfl _ (y_move rfl rfl) ?_
                  refine S_nil (nextK5 (kf := [(11, 11), (13, 15), (59, 112)]) (kl := [(11, 11), (13, 15), (59, 112)]) (k + 1) (out ++ dif1 (gi (szT t) n) (gi (szT u) n) n) (q + 1) A94 c94 (by repeat (first | exact kf_nil | (apply kf_in; focus rfl) | (apply kf_out; focus rfl))) (by repeat (first | exact kl_nil | exact kl_rest (by assumption) rfl | (apply kl_in; focus rfl) | (apply kl_out; focus rfl))) ?_ ?_ ?_ ?_)
                  · omega
                  · exact ⟨by omega, dif_next hn1 hk2, by rw [List.length_append, hk3, hd1]; rfl, by omega⟩
                  · exact ⟨rfl, rfl, trivial⟩
                  · exact ⟨by rw [hd1]; rfl, trivial⟩
                · try simp only [decide_eq_true_eq, decide_eq_false_iff_not, Bool.or_eq_true, Bool.or_eq_false_iff, Bool.and_eq_true, Bool.and_eq_false_iff, Bool.not_eq_true', Bool.not_eq_false', Bool.not_eq_true, Bool.not_eq_false, Bool.not_true, Bool.not_false, Int.not_lt, Int.not_le, not_or, not_and, Classical.not_not] at h83
                  refine T_seq ?_
                  refine T_region ?_
                  refine S_ 96 rfl rfl rfl _ (y_move rfl rfl) ?_
                  refine S_ 97 rfl rfl rfl _ (y_move rfl rfl) ?_
                  refine S_ 98 rfl rfl rfl _ (y_bin rfl rfl rfl (fun _ => b_neq)) ?_
                  refine S_ 95 rfl rfl rfl _ (y_assign rfl rfl) ?_
                  refine S_go (fun _ _ h => h) ?_
                  refine T_cond rfl (fun h95 => ?_) (fun h95 => ?_)
                  · try simp only [decide_eq_true_eq, decide_eq_false_iff_not, Bool.or_eq_true, Bool.or_eq_false_iff, Bool.and_eq_true, Bool.and_eq_false_iff, Bool.not_eq_true', Bool.not_eq_false', Bool.not_eq_true, Bool.not_eq_false, Bool.not_true, Bool.not_false, Int.not_lt, Int.not_le, not_or, not_and, Classical.not_not] at h95
                    have hd1 : dif1 (gi (szT t) n) (gi (szT u) n) n = [[126, 32] ++ n ++ [32] ++ Lib.itoa (gi (szT t) n) ++ [32] ++ Lib.itoa (gi (szT u) n)] := (if_neg h71).trans ((if_neg h83).trans (if_pos h95))
                    refine T_region ?_
                    refine S_ 99 rfl rfl rfl _ (y_move rfl rfl) ?_
                    refine S_ 100 rfl rfl rfl _ (y_move rfl rfl) ?_
                    refine S_ 101 rfl rfl rfl _ (y_bin rfl rfl rfl (fun hg => b_adds (by first | omega | (simp only [List.length_append, List.length_cons, List.length_nil]; omega)))) ?_
                    refine S_ 102 rfl rfl rfl _ (y_bin rfl rfl rfl (fun hg => b_adds (by first | omega | (simp only [List.length_append, List.length_cons, List.length_nil]; omega)))) ?_
                    refine S_ 103 rfl rfl rfl _ (y_move rfl rfl) ?_
                    refine S_ 104 rfl rfl rfl _ (y_call rfl rfl rfl cf124 (fun _ w hM => Itoa_any _ (by omega) (by omega) w (hP.below hM.below))) ?_
                    refine S_ 105 rfl rfl rfl _ (y_bin rfl rfl rfl (fun hg => b_adds (by first | omega | (simp only [List.length_append, List.length_cons, List.length_nil]; omega)))) ?_
                    refine S_ 106 rfl rfl rfl _ (y_bin rfl rfl rfl (fun hg => b_adds (by first | omega | (simp only [List.length_append, List.length_cons, List.length_nil]; omega)))) ?_
                    refine S_ 107 rfl rfl rfl _ (y_move rfl rfl) ?_
                    refine S_ 108 rfl rfl rfl _ (y_call rfl rfl rfl cf124 (fun _ w hM => Itoa_any _ (by omega) (by omega) w (hP.below hM.below))) ?_
                    refine S_ 109 rfl rfl rfl _ (y_bin rfl rfl rfl (fun hg => b_adds (by first | omega | (simp only [List.length_append, List.length_cons, List.length_nil]; omega)))) ?_
                    refine S_buildSlice 110 110 rfl rfl rfl rfl rfl Tryz.underlying57 inf9 rfl (by decide) (by decide) rfl rfl (by decide) rfl (_) rfl ?_
                    intro b110
                    obtain ⟨i111, hi111, hz111, hs111, hy111⟩ := info_parts inf9
                    refine S_append 111 11 110 rfl rfl rfl rfl rfl rfl rfl rfl Tryz.underlying57 hi111 hz111 hs111 hy111 rfl (by decide) (by decide) rfl ?_ ?_ (q + 1) ((out ++ [[126, 32] ++ n ++ [32] ++ Lib.itoa (gi (szT t) n) ++ [32] ++ Lib.itoa (gi (szT u) n)]).flatMap strEnc) ?_ ?_ ?_
                    · (simp only [maxLen]; omega)
                    · omega
                    · rfl
                    · simp [List.flatMap_append, strEnc]; rfl
                    intro A111 c111
                    refine S_ 11 rfl rfl rfl _ (y_assign rfl rfl) ?_
                    refine S_go (fun _ _ h => h) ?_
                    refine T_region ?_
                    refine S_ 112 rfl rfl rfl _ (y_bin rfl rfl rfl (fun hg => b_add (by omega))) ?_
                    refine S_ 59 rfl rfl rfl _ (y_move rfl rfl) ?_
                    refine S_nil (nextK5 (kf := [(11, 11), (13, 15), (59, 112)]) (kl := [(11, 11), (13, 15), (59, 112)]) (k + 1) (out ++ dif1 (gi (szT t) n) (gi (szT u) n) n) (q + 1) A111 c111 (by repeat (first | exact kf_nil | (apply kf_in; focus rfl) | (apply kf_out; focus rfl))) (by repeat (first | exact kl_nil | exact kl_rest (by assumption) rfl | (apply kl_in; focus rfl) | (apply kl_out; focus rfl))) ?_ ?_ ?_ ?_)
                    · omega
                    · exact ⟨by omega, dif_next hn1 hk2, by rw [List.length_append, hk3, hd1]; rfl, by omega⟩
                    · exact ⟨rfl, rfl, trivial⟩
                    · exact ⟨by rw [hd1]; rfl, trivial⟩
                  · try simp only [decide_eq_true_eq, decide_eq_false_iff_not, Bool.or_eq_true, Bool.or_eq_false_iff, Bool.and_eq_true, Bool.and_eq_false_iff, Bool.not_eq_true', Bool.not_eq_false', Bool.not_eq_true, Bool.not_eq_false, Bool.not_true, Bool.not_false, Int.not_lt, Int.not_le, not_or, not_and, Classical.not_not] at h95
                    have hd1 : dif1 (gi (szT t) n) (gi (szT u) n) n = [] := (if_neg h71).trans ((if_neg h83).trans (if_neg (by simpa using h95)))
                    refine T_skip_go (fun _ _ h => h) ?_
                    refine T_region ?_
                    refine S_ 112 rfl rfl rfl _ (y_bin rfl rfl rfl (fun hg => b_add (by omega))) ?_
                    refine S_ 59 rfl rfl rfl _ (y_move rfl rfl) ?_
                    refine S_nil (nextK5 (kf := [(11, 11), (13, 15), (59, 112)]) (kl := [(11, 11), (13, 15), (59, 112)]) (k + 1) out q A c (by repeat (first | exact kf_nil | (apply kf_in; focus rfl) | (apply kf_out; focus rfl))) (by repeat (first | exact kl_nil | exact kl_rest (by assumption) rfl | (apply kl_in; focus rfl) | (apply kl_out; focus rfl))) ?_ ?_ ?_ ?_)
                    · omega
                    · exact ⟨by omega, by have := dif_next hn1 hk2; rw [hd1, List.append_nil] at this; exact this, hk3, by omega⟩
                    · exact ⟨rfl, rfl, trivial⟩
                    · exact ⟨rfl, trivial⟩
            · try simp only [decide_eq_true_eq, decide_eq_false_iff_not, Bool.or_eq_true, Bool.or_eq_false_iff, Bool.and_eq_true, Bool.and_eq_false_iff, Bool.not_eq_true', Bool.not_eq_false', Bool.not_eq_true, Bool.not_eq_false, Bool.not_true, Bool.not_false, Int.not_lt, Int.not_le, not_or, not_and, Classical.not_not] at h60
              refine T_exit_go (fun _ _ h => h) ?_
              refine T_seq ?_
              refine T_region ?_
              refine S_ 113 rfl rfl rfl _ (y_move rfl rfl) ?_
              refine S_ 4 rfl rfl rfl _ (y_assign rfl rfl) ?_
              refine S_go (fun _ _ h => h) ?_
              refine T_ret (fun a w hF hM => hRb a w (post1 rfl rfl (fun w hM => ?_) a w hF hM))
              have e2 : difO t u = out := by rw [← hk2, List.drop_eq_nil_of_le (by omega)]; simp [difL]
              rw [e2, hk3]
              exact ⟨A, c, rfl, hM.sat 11 _ rfl, hM.below⟩
      · skip
        simp at h21
  · skip
    simp at h21
end Go.Proofs.YtkkngcdikbhkjaaGreatDoor
end
section
namespace Go.Proofs.YtkkngcdikbhkjaaGreatDoor
set_option linter.unusedSimpArgs false
set_option linter.unusedVariables false
set_option maxRecDepth 20000
open Go.RowKit Go.Eng
end Go.Proofs.YtkkngcdikbhkjaaGreatDoor
end
section
namespace Go.Proofs.YtkkngcdikbhkjaaGreatDoor
set_option linter.unusedSimpArgs false
set_option linter.unusedVariables false
set_option maxRecDepth 20000
open Go.RowKit Go.Eng
end Go.Proofs.YtkkngcdikbhkjaaGreatDoor
end
section
namespace Go.Proofs.YtkkngcdikbhkjaaGreatDoor
set_option linter.unusedSimpArgs false
set_option linter.unusedVariables false
set_option maxRecDepth 20000
open Go.RowKit Go.Eng
def SPlace.eqC (a b : SPlace) : Bool := decide (a.fn = b.fn) && (decide (a.fi = b.fi) && decide (a.ln = b.ln))
theorem SPlace.eqC_iff (a b : SPlace) : SPlace.eqC a b = true ↔ a = b := by cases a; cases b; simp [SPlace.eqC]
def SSpan.eqC (a b : SSpan) : Bool := decide (a.fr = b.fr) && decide (a.tu = b.tu)
theorem SSpan.eqC_iff (a b : SSpan) : SSpan.eqC a b = true ↔ a = b := by cases a; cases b; simp [SSpan.eqC]
def SShare.eqC (a b : SShare) : Bool := decide (a.name = b.name) && decide (a.n = b.n)
theorem SShare.eqC_iff (a b : SShare) : SShare.eqC a b = true ↔ a = b := by cases a; cases b; simp [SShare.eqC]
def nmEqC (a b : Nm) : Bool := decide (a = b)
theorem nmEqC_iff (a b : Nm) : nmEqC a b = true ↔ a = b := by simp [nmEqC]
theorem SlT.own9 {α : Type} {enc : α → List Value} {size : Nat} {e : TypeId} {w0 w : World} {L : HL} {i : Nat} {A : Option Addr} {c q : Nat} {l : List α} (hM : Mem w0 L w) (hq : l.length = q) (hL : L.get i = some (.own e size (.slice A q c) q (l.flatMap enc))) : SlT enc size w A q l := (own_ok2 hM hq hL).t
theorem EqlPl_any (A B : Option Addr) (q c p d : Nat) (l m : List (SPlace)) (w : World) (hl : SlT SPlace.enc 3 w A q l) (hm : SlT SPlace.enc 3 w B p m) (hq : q ≤ 4611686018427387904) (hp : p ≤ 4611686018427387904) :
    Calls Tryz.prog 180 #[.slice A q c, .slice B p d] w fun e w' => e = .returned (.bool (eqLB SPlace.eqC l m)) ∧ Below w.heap.size w w' := by
  have hlen := hl.len
  have hmen := hm.len
  refine enter_args (args := [.slice A q c, .slice B p d]) (F := _) Tryz.func180 rfl Tryz.ntmps180 rfl rfl ?_
  intro Rb hRb hRn
  refine T_seq ?_
  refine T_region ?_
  refine S_ 4 rfl rfl rfl _ (y_assign rfl rfl) ?_
  refine S_go (fun _ _ h => h) ?_
  refine T_seq ?_
  refine T_seq ?_
  refine T_region ?_
  refine S_ 6 rfl rfl rfl _ (y_move rfl rfl) ?_
  refine S_ 7 rfl rfl rfl _ (y_len_slice rfl rfl Tryz.underlying119) ?_
  refine S_ 8 rfl rfl rfl _ (y_move rfl rfl) ?_
  refine S_ 9 rfl rfl rfl _ (y_len_slice rfl rfl Tryz.underlying119) ?_
  refine S_ 10 rfl rfl rfl _ (y_bin rfl rfl rfl (fun _ => b_neq)) ?_
  refine S_go (fun _ _ h => h) ?_
  refine T_cond rfl (fun h10 => ?_) (fun h10 => ?_)
  · try simp only [decide_eq_true_eq, decide_eq_false_iff_not, Bool.or_eq_true, Bool.or_eq_false_iff, Bool.and_eq_true, Bool.and_eq_false_iff, Bool.not_eq_true', Bool.not_eq_false', Bool.not_eq_true, Bool.not_eq_false, Bool.not_true, Bool.not_false, Int.not_lt, Int.not_le, not_or, not_and, Classical.not_not] at h10
    refine T_seq ?_
    refine T_region ?_
    refine S_ 4 rfl rfl rfl _ (y_assign rfl rfl) ?_
    refine S_go (fun _ _ h => h) ?_
    refine T_ret (fun a w hF hM => hRb a w (post1 rfl rfl (fun w hM => ?_) a w hF hM))
    exact ⟨by rw [eqLB_len l m (by omega)], hM.below⟩
  · try simp only [decide_eq_true_eq, decide_eq_false_iff_not, Bool.or_eq_true, Bool.or_eq_false_iff, Bool.and_eq_true, Bool.and_eq_false_iff, Bool.not_eq_true', Bool.not_eq_false', Bool.not_eq_true, Bool.not_eq_false, Bool.not_true, Bool.not_false, Int.not_lt, Int.not_le, not_or, not_and, Classical.not_not] at h10
    refine T_skip_go (fun _ _ h => h) ?_
    refine T_seq ?_
    refine T_seq ?_
    refine T_region ?_
    refine S_ 11 rfl rfl rfl _ (y_move rfl rfl) ?_
    refine S_ 12 rfl rfl rfl _ (y_len_slice rfl rfl Tryz.underlying119) ?_
    refine S_ 13 rfl rfl rfl _ (y_move rfl rfl) ?_
    refine S_go (fun _ _ h => h) ?_
    refine T_block ?_
    refine T_loopK1 (kf := [(4, 5), (13, 25)]) (kl := [(4, 5), (13, 25)]) (fun (i : Nat) => [(13, true, .int .i64 (i : Int))]) (fun (i : Nat) => []) (fun (i : Nat) => i ≤ q ∧ eqLB SPlace.eqC l m = eqLB SPlace.eqC (l.drop i) (m.drop i)) (fun (i : Nat) => q - i) 0 (by repeat (first | exact kf_nil | (apply kf_in; focus rfl) | (apply kf_out; focus rfl))) (by repeat (first | exact kl_nil | exact kl_rest (by assumption) rfl | (apply kl_in; focus rfl) | (apply kl_out; focus rfl))) ?_ ?_ ?_ ?_
    · exact ⟨by omega, rfl⟩
    · exact ⟨rfl, trivial⟩
    · exact trivial
    rintro i ⟨hp1, hp2⟩
    refine T_seq ?_
    refine T_region ?_
    refine S_ 14 rfl rfl rfl _ (y_bin rfl rfl rfl (fun _ => b_lss)) ?_
    refine S_go (fun _ _ h => h) ?_
    refine T_seq ?_
    refine T_cond rfl (fun h14 => ?_) (fun h14 => ?_)
    · try simp only [decide_eq_true_eq, decide_eq_false_iff_not, Bool.or_eq_true, Bool.or_eq_false_iff, Bool.and_eq_true, Bool.and_eq_false_iff, Bool.not_eq_true', Bool.not_eq_false', Bool.not_eq_true, Bool.not_eq_false, Bool.not_true, Bool.not_false, Int.not_lt, Int.not_le, not_or, not_and, Classical.not_not] at h14
      obtain ⟨a, hx1, hx2⟩ := hl.at (i := i) (by omega)
      obtain ⟨b, hy1, hy2⟩ := hm.at (i := i) (by omega)
      refine T_skip_go (fun _ _ h => h) ?_
      refine T_seq ?_
      refine T_block ?_
      refine T_seq ?_
      refine T_region ?_
      refine S_ 15 rfl rfl rfl _ (y_move rfl rfl) ?_
      refine S_ 5 rfl rfl rfl _ (y_assign rfl rfl) ?_
      refine S_go (fun _ _ h => h) ?_
      refine T_seq ?_
      refine T_draws (by kernel_rfl) (by kernel_rfl) ?_
      refine D_ 16 rfl rfl rfl _ (y_move rfl rfl) ?_
      refine D_ 17 rfl rfl rfl _ (y_move rfl rfl) ?_
      refine D_ 18 rfl rfl rfl _ (y_indexAddr rfl rfl rfl Tryz.underlying119 sz134 (fun hg => hl.isSome (by omega)) (fun _ => by omega)) ?_
      refine D_ 19 rfl rfl rfl _ (y_loadT rfl rfl hl (fun _ => rfl) (fun _ => hx1) Tryz.underlying134 rfl sz134) ?_
      refine D_ 20 rfl rfl rfl _ (y_move rfl rfl) ?_
      refine D_ 21 rfl rfl rfl _ (y_move rfl rfl) ?_
      refine D_ 22 rfl rfl rfl _ (y_indexAddr rfl rfl rfl Tryz.underlying119 sz134 (fun hg => hm.isSome (by omega)) (fun _ => by omega)) ?_
      refine D_ 23 rfl rfl rfl _ (y_loadT rfl rfl hm (fun _ => rfl) (fun _ => hy1) Tryz.underlying134 rfl sz134) ?_
      refine D_ 24 rfl rfl rfl _ (y_as (v' := .bool (!(SPlace.eqC a b))) (by simp [SPlace.eqC, str]) (y_bin rfl rfl rfl (fun _ => b_neqA (rs := [_, _, _]) Tryz.underlying134 (by kernel_rfl) (by kernel_rfl) ⟨by decide, ⟨_, Tryz.underlying9, rfl, _, _, rfl, rfl, rfl⟩, by decide, ⟨_, Tryz.underlying9, rfl, _, _, rfl, rfl, rfl⟩, by decide, ⟨_, Tryz.underlying3, rfl, _, _, rfl, rfl, rfl⟩, trivial⟩))) ?_
      refine D_go (fun _ _ h => h) ?_
      refine T_cond rfl (fun h24 => ?_) (fun h24 => ?_)
      · skip
        have h24e : SPlace.eqC a b = false := by simpa using h24
        refine T_seq ?_
        refine T_region ?_
        refine S_ 4 rfl rfl rfl _ (y_assign rfl rfl) ?_
        refine S_go (fun _ _ h => h) ?_
        refine T_ret (fun a w hF hM => hRb a w (post1 rfl rfl (fun w hM => ?_) a w hF hM))
        exact ⟨by rw [hp2, hx2, hy2, eqLB, h24e, Bool.false_and], hM.below⟩
      · skip
        have h24e : SPlace.eqC a b = true := by simpa using h24
        refine T_skip_go (fun _ _ h => h) ?_
        refine T_region ?_
        refine S_ 25 rfl rfl rfl _ (y_bin rfl rfl rfl (fun hg => b_add (by omega))) ?_
        refine S_ 13 rfl rfl rfl _ (y_move rfl rfl) ?_
        refine S_nil (nextK1 (kf := [(4, 5), (13, 25)]) (kl := [(4, 5), (13, 25)]) (i + 1) (by repeat (first | exact kf_nil | (apply kf_in; focus rfl) | (apply kf_out; focus rfl))) (by repeat (first | exact kl_nil | exact kl_rest (by assumption) rfl | (apply kl_in; focus rfl) | (apply kl_out; focus rfl))) ?_ ?_ ?_ ?_)
        · omega
        · exact ⟨by omega, by rw [hp2, hx2, hy2, eqLB, h24e, Bool.true_and]⟩
        · exact ⟨rfl, trivial⟩
        · exact trivial
    · try simp only [decide_eq_true_eq, decide_eq_false_iff_not, Bool.or_eq_true, Bool.or_eq_false_iff, Bool.and_eq_true, Bool.and_eq_false_iff, Bool.not_eq_true', Bool.not_eq_false', Bool.not_eq_true, Bool.not_eq_false, Bool.not_true, Bool.not_false, Int.not_lt, Int.not_le, not_or, not_and, Classical.not_not] at h14
      refine T_exit_go (fun _ _ h => h) ?_
      refine T_seq ?_
      refine T_region ?_
      refine S_ 4 rfl rfl rfl _ (y_assign rfl rfl) ?_
      refine S_go (fun _ _ h => h) ?_
      refine T_ret (fun a w hF hM => hRb a w (post1 rfl rfl (fun w hM => ?_) a w hF hM))
      exact ⟨by rw [hp2, hl.end (by omega), hm.end (by omega)]; rfl, hM.below⟩
theorem listedPl_any (A B : Option Addr) (q c p d : Nat) (l m : List (SPlace)) (e x : Int) (w : World) (hl : SlT SPlace.enc 3 w A q l) (hm : SlT SPlace.enc 3 w B p m) (hq : q ≤ 4611686018427387904) (hp : p ≤ 4611686018427387904) (he : e = x) (hz : x ≠ 0 → l = []) (h0 : x = 0 → m = l) :
    Calls Tryz.prog 70 #[.slice A q c, .int .i64 e, .slice B p d, .int .i64 x] w fun e w' => e = .returned (.bool true) ∧ Below w.heap.size w w' := by
  subst he
  refine enter_args (args := [.slice A q c, .int .i64 e, .slice B p d, .int .i64 e]) (F := _) Tryz.func70 rfl Tryz.ntmps70 rfl rfl ?_
  intro Rb hRb hRn
  refine T_seq ?_
  refine T_region ?_
  refine S_ 8 rfl rfl rfl _ (y_assign rfl rfl) ?_
  refine S_go (fun _ _ h => h) ?_
  refine T_seq ?_
  refine T_seq ?_
  refine T_region ?_
  refine S_ 9 rfl rfl rfl _ (y_move rfl rfl) ?_
  refine S_ 10 rfl rfl rfl _ (y_bin rfl rfl rfl (fun _ => b_neq)) ?_
  refine S_go (fun _ _ h => h) ?_
  refine T_cond rfl (fun h10 => ?_) (fun h10 => ?_)
  · try simp only [decide_eq_true_eq, decide_eq_false_iff_not, Bool.or_eq_true, Bool.or_eq_false_iff, Bool.and_eq_true, Bool.and_eq_false_iff, Bool.not_eq_true', Bool.not_eq_false', Bool.not_eq_true, Bool.not_eq_false, Bool.not_true, Bool.not_false, Int.not_lt, Int.not_le, not_or, not_and, Classical.not_not] at h10
    refine T_region ?_
    refine S_nilSlice 2 (e := 134) (size := 3) ?_
    refine S_ 2 rfl rfl rfl _ (y_assign rfl rfl) ?_
    refine S_go (fun _ _ h => h) ?_
    refine T_seq ?_
    refine T_region ?_
    refine S_ 11 rfl rfl rfl _ (y_move rfl rfl) ?_
    refine S_ 12 rfl rfl rfl _ (y_move rfl rfl) ?_
    refine S_ 13 rfl rfl rfl _ (y_call rfl rfl rfl cf180 (fun _ w hM => EqlPl_any _ _ _ _ _ _ l [] w (hl.below hM.below) (SlT.own9 hM rfl (i := 2) rfl) hq (by omega))) ?_
    refine S_ 14 rfl rfl rfl _ (y_move rfl rfl) ?_
    refine Sg_ 15 rfl rfl rfl rfl rfl rfl _ (y_move rfl rfl) ?_
    refine Sg_ 16 rfl rfl rfl rfl rfl rfl _ (y_move rfl rfl) ?_
    refine Sg_ 17 rfl rfl rfl rfl rfl rfl _ (y_bin rfl rfl rfl (fun _ => b_eql)) ?_
    refine S_ 18 rfl rfl rfl _ (y_and rfl rfl rfl) ?_
    refine S_ 8 rfl rfl rfl _ (y_assign rfl rfl) ?_
    refine S_go (fun _ _ h => h) ?_
    refine T_ret (fun a w hF hM => hRb a w (post1 rfl rfl (fun w hM => ?_) a w hF hM))
    exact ⟨by rw [hz h10]; simp [eqLB], hM.below⟩
  · try simp only [decide_eq_true_eq, decide_eq_false_iff_not, Bool.or_eq_true, Bool.or_eq_false_iff, Bool.and_eq_true, Bool.and_eq_false_iff, Bool.not_eq_true', Bool.not_eq_false', Bool.not_eq_true, Bool.not_eq_false, Bool.not_true, Bool.not_false, Int.not_lt, Int.not_le, not_or, not_and, Classical.not_not] at h10
    refine T_skip_go (fun _ _ h => h) ?_
    refine T_seq ?_
    refine T_region ?_
    refine S_ 11 rfl rfl rfl _ (y_move rfl rfl) ?_
    refine S_ 12 rfl rfl rfl _ (y_move rfl rfl) ?_
    refine S_ 13 rfl rfl rfl _ (y_call rfl rfl rfl cf180 (fun _ w hM => EqlPl_any _ _ _ _ _ _ l m w (hl.below hM.below) (hm.below hM.below) hq hp)) ?_
    refine S_ 14 rfl rfl rfl _ (y_move rfl rfl) ?_
    refine Sg_ 15 rfl rfl rfl rfl rfl rfl _ (y_move rfl rfl) ?_
    refine Sg_ 16 rfl rfl rfl rfl rfl rfl _ (y_move rfl rfl) ?_
    refine Sg_ 17 rfl rfl rfl rfl rfl rfl _ (y_bin rfl rfl rfl (fun _ => b_eql)) ?_
    refine S_ 18 rfl rfl rfl _ (y_and rfl rfl rfl) ?_
    refine S_ 8 rfl rfl rfl _ (y_assign rfl rfl) ?_
    refine S_go (fun _ _ h => h) ?_
    refine T_ret (fun a w hF hM => hRb a w (post1 rfl rfl (fun w hM => ?_) a w hF hM))
    exact ⟨by rw [h0 h10, (eqLB_iff SPlace.eqC_iff l l).2 rfl]; simp, hM.below⟩
theorem EqlSp_any (A B : Option Addr) (q c p d : Nat) (l m : List (SSpan)) (w : World) (hl : SlT SSpan.enc 2 w A q l) (hm : SlT SSpan.enc 2 w B p m) (hq : q ≤ 4611686018427387904) (hp : p ≤ 4611686018427387904) :
    Calls Tryz.prog 181 #[.slice A q c, .slice B p d] w fun e w' => e = .returned (.bool (eqLB SSpan.eqC l m)) ∧ Below w.heap.size w w' := by
  have hlen := hl.len
  have hmen := hm.len
  refine enter_args (args := [.slice A q c, .slice B p d]) (F := _) Tryz.func181 rfl Tryz.ntmps181 rfl rfl ?_
  intro Rb hRb hRn
  refine T_seq ?_
  refine T_region ?_
  refine S_ 4 rfl rfl rfl _ (y_assign rfl rfl) ?_
  refine S_go (fun _ _ h => h) ?_
  refine T_seq ?_
  refine T_seq ?_
  refine T_region ?_
  refine S_ 6 rfl rfl rfl _ (y_move rfl rfl) ?_
  refine S_ 7 rfl rfl rfl _ (y_len_slice rfl rfl Tryz.underlying122) ?_
  refine S_ 8 rfl rfl rfl _ (y_move rfl rfl) ?_
  refine S_ 9 rfl rfl rfl _ (y_len_slice rfl rfl Tryz.underlying122) ?_
  refine S_ 10 rfl rfl rfl _ (y_bin rfl rfl rfl (fun _ => b_neq)) ?_
  refine S_go (fun _ _ h => h) ?_
  refine T_cond rfl (fun h10 => ?_) (fun h10 => ?_)
  · try simp only [decide_eq_true_eq, decide_eq_false_iff_not, Bool.or_eq_true, Bool.or_eq_false_iff, Bool.and_eq_true, Bool.and_eq_false_iff, Bool.not_eq_true', Bool.not_eq_false', Bool.not_eq_true, Bool.not_eq_false, Bool.not_true, Bool.not_false, Int.not_lt, Int.not_le, not_or, not_and, Classical.not_not] at h10
    refine T_seq ?_
    refine T_region ?_
    refine S_ 4 rfl rfl rfl _ (y_assign rfl rfl) ?_
    refine S_go (fun _ _ h => h) ?_
    refine T_ret (fun a w hF hM => hRb a w (post1 rfl rfl (fun w hM => ?_) a w hF hM))
    exact ⟨by rw [eqLB_len l m (by omega)], hM.below⟩
  · try simp only [decide_eq_true_eq, decide_eq_false_iff_not, Bool.or_eq_true, Bool.or_eq_false_iff, Bool.and_eq_true, Bool.and_eq_false_iff, Bool.not_eq_true', Bool.not_eq_false', Bool.not_eq_true, Bool.not_eq_false, Bool.not_true, Bool.not_false, Int.not_lt, Int.not_le, not_or, not_and, Classical.not_not] at h10
    refine T_skip_go (fun _ _ h => h) ?_
    refine T_seq ?_
    refine T_seq ?_
    refine T_region ?_
    refine S_ 11 rfl rfl rfl _ (y_move rfl rfl) ?_
    refine S_ 12 rfl rfl rfl _ (y_len_slice rfl rfl Tryz.underlying122) ?_
    refine S_ 13 rfl rfl rfl _ (y_move rfl rfl) ?_
    refine S_go (fun _ _ h => h) ?_
    refine T_block ?_
    refine T_loopK1 (kf := [(4, 5), (13, 25)]) (kl := [(4, 5), (13, 25)]) (fun (i : Nat) => [(13, true, .int .i64 (i : Int))]) (fun (i : Nat) => []) (fun (i : Nat) => i ≤ q ∧ eqLB SSpan.eqC l m = eqLB SSpan.eqC (l.drop i) (m.drop i)) (fun (i : Nat) => q - i) 0 (by repeat (first | exact kf_nil | (apply kf_in; focus rfl) | (apply kf_out; focus rfl))) (by repeat (first | exact kl_nil | exact kl_rest (by assumption) rfl | (apply kl_in; focus rfl) | (apply kl_out; focus rfl))) ?_ ?_ ?_ ?_
    · exact ⟨by omega, rfl⟩
    · exact ⟨rfl, trivial⟩
    · exact trivial
    rintro i ⟨hp1, hp2⟩
    refine T_seq ?_
    refine T_region ?_
    refine S_ 14 rfl rfl rfl _ (y_bin rfl rfl rfl (fun _ => b_lss)) ?_
    refine S_go (fun _ _ h => h) ?_
    refine T_seq ?_
    refine T_cond rfl (fun h14 => ?_) (fun h14 => ?_)
    · try simp only [decide_eq_true_eq, decide_eq_false_iff_not, Bool.or_eq_true, Bool.or_eq_false_iff, Bool.and_eq_true, Bool.and_eq_false_iff, Bool.not_eq_true', Bool.not_eq_false', Bool.not_eq_true, Bool.not_eq_false, Bool.not_true, Bool.not_false, Int.not_lt, Int.not_le, not_or, not_and, Classical.not_not] at h14
      obtain ⟨a, hx1, hx2⟩ := hl.at (i := i) (by omega)
      obtain ⟨b, hy1, hy2⟩ := hm.at (i := i) (by omega)
      refine T_skip_go (fun _ _ h => h) ?_
      refine T_seq ?_
      refine T_block ?_
      refine T_seq ?_
      refine T_region ?_
      refine S_ 15 rfl rfl rfl _ (y_move rfl rfl) ?_
      refine S_ 5 rfl rfl rfl _ (y_assign rfl rfl) ?_
      refine S_go (fun _ _ h => h) ?_
      refine T_seq ?_
      refine T_draws (by kernel_rfl) (by kernel_rfl) ?_
      refine D_ 16 rfl rfl rfl _ (y_move rfl rfl) ?_
      refine D_ 17 rfl rfl rfl _ (y_move rfl rfl) ?_
      refine D_ 18 rfl rfl rfl _ (y_indexAddr rfl rfl rfl Tryz.underlying122 sz137 (fun hg => hl.isSome (by omega)) (fun _ => by omega)) ?_
      refine D_ 19 rfl rfl rfl _ (y_loadT rfl rfl hl (fun _ => rfl) (fun _ => hx1) Tryz.underlying137 rfl sz137) ?_
      refine D_ 20 rfl rfl rfl _ (y_move rfl rfl) ?_
      refine D_ 21 rfl rfl rfl _ (y_move rfl rfl) ?_
      refine D_ 22 rfl rfl rfl _ (y_indexAddr rfl rfl rfl Tryz.underlying122 sz137 (fun hg => hm.isSome (by omega)) (fun _ => by omega)) ?_
      refine D_ 23 rfl rfl rfl _ (y_loadT rfl rfl hm (fun _ => rfl) (fun _ => hy1) Tryz.underlying137 rfl sz137) ?_
      refine D_ 24 rfl rfl rfl _ (y_as (v' := .bool (!(SSpan.eqC a b))) (by simp [SSpan.eqC]) (y_bin rfl rfl rfl (fun _ => b_neqA (rs := [_, _]) Tryz.underlying137 (by kernel_rfl) (by kernel_rfl) ⟨by decide, ⟨_, Tryz.underlying3, rfl, _, _, rfl, rfl, rfl⟩, by decide, ⟨_, Tryz.underlying3, rfl, _, _, rfl, rfl, rfl⟩, trivial⟩))) ?_
      refine D_go (fun _ _ h => h) ?_
      refine T_cond rfl (fun h24 => ?_) (fun h24 => ?_)
      · skip
        have h24e : SSpan.eqC a b = false := by simpa using h24
        refine T_seq ?_
        refine T_region ?_
        refine S_ 4 rfl rfl rfl _ (y_assign rfl rfl) ?_
        refine S_go (fun _ _ h => h) ?_
        refine T_ret (fun a w hF hM => hRb a w (post1 rfl rfl (fun w hM => ?_) a w hF hM))
        exact ⟨by rw [hp2, hx2, hy2, eqLB, h24e, Bool.false_and], hM.below⟩
      · skip
        have h24e : SSpan.eqC a b = true := by simpa using h24
        refine T_skip_go (fun _ _ h => h) ?_
        refine T_region ?_
        refine S_ 25 rfl rfl rfl _ (y_bin rfl rfl rfl (fun hg => b_add (by omega))) ?_
        refine S_ 13 rfl rfl rfl _ (y_move rfl rfl) ?_
        refine S_nil (nextK1 (kf := [(4, 5), (13, 25)]) (kl := [(4, 5), (13, 25)]) (i + 1) (by repeat (first | exact kf_nil | (apply kf_in; focus rfl) | (apply kf_out; focus rfl))) (by repeat (first | exact kl_nil | exact kl_rest (by assumption) rfl | (apply kl_in; focus rfl) | (apply kl_out; focus rfl))) ?_ ?_ ?_ ?_)
        · omega
        · exact ⟨by omega, by rw [hp2, hx2, hy2, eqLB, h24e, Bool.true_and]⟩
        · exact ⟨rfl, trivial⟩
        · exact trivial
    · try simp only [decide_eq_true_eq, decide_eq_false_iff_not, Bool.or_eq_true, Bool.or_eq_false_iff, Bool.and_eq_true, Bool.and_eq_false_iff, Bool.not_eq_true', Bool.not_eq_false', Bool.not_eq_true, Bool.not_eq_false, Bool.not_true, Bool.not_false, Int.not_lt, Int.not_le, not_or, not_and, Classical.not_not] at h14
      refine T_exit_go (fun _ _ h => h) ?_
      refine T_seq ?_
      refine T_region ?_
      refine S_ 4 rfl rfl rfl _ (y_assign rfl rfl) ?_
      refine S_go (fun _ _ h => h) ?_
      refine T_ret (fun a w hF hM => hRb a w (post1 rfl rfl (fun w hM => ?_) a w hF hM))
      exact ⟨by rw [hp2, hl.end (by omega), hm.end (by omega)]; rfl, hM.below⟩
theorem listedSp_any (A B : Option Addr) (q c p d : Nat) (l m : List (SSpan)) (e x : Int) (w : World) (hl : SlT SSpan.enc 2 w A q l) (hm : SlT SSpan.enc 2 w B p m) (hq : q ≤ 4611686018427387904) (hp : p ≤ 4611686018427387904) (he : e = x) (hz : x ≠ 0 → l = []) (h0 : x = 0 → m = l) :
    Calls Tryz.prog 71 #[.slice A q c, .int .i64 e, .slice B p d, .int .i64 x] w fun e w' => e = .returned (.bool true) ∧ Below w.heap.size w w' := by
  subst he
  refine enter_args (args := [.slice A q c, .int .i64 e, .slice B p d, .int .i64 e]) (F := _) Tryz.func71 rfl Tryz.ntmps71 rfl rfl ?_
  intro Rb hRb hRn
  refine T_seq ?_
  refine T_region ?_
  refine S_ 8 rfl rfl rfl _ (y_assign rfl rfl) ?_
  refine S_go (fun _ _ h => h) ?_
  refine T_seq ?_
  refine T_seq ?_
  refine T_region ?_
  refine S_ 9 rfl rfl rfl _ (y_move rfl rfl) ?_
  refine S_ 10 rfl rfl rfl _ (y_bin rfl rfl rfl (fun _ => b_neq)) ?_
  refine S_go (fun _ _ h => h) ?_
  refine T_cond rfl (fun h10 => ?_) (fun h10 => ?_)
  · try simp only [decide_eq_true_eq, decide_eq_false_iff_not, Bool.or_eq_true, Bool.or_eq_false_iff, Bool.and_eq_true, Bool.and_eq_false_iff, Bool.not_eq_true', Bool.not_eq_false', Bool.not_eq_true, Bool.not_eq_false, Bool.not_true, Bool.not_false, Int.not_lt, Int.not_le, not_or, not_and, Classical.not_not] at h10
    refine T_region ?_
    refine S_nilSlice 2 (e := 137) (size := 2) ?_
    refine S_ 2 rfl rfl rfl _ (y_assign rfl rfl) ?_
    refine S_go (fun _ _ h => h) ?_
    refine T_seq ?_
    refine T_region ?_
    refine S_ 11 rfl rfl rfl _ (y_move rfl rfl) ?_
    refine S_ 12 rfl rfl rfl _ (y_move rfl rfl) ?_
    refine S_ 13 rfl rfl rfl _ (y_call rfl rfl rfl cf181 (fun _ w hM => EqlSp_any _ _ _ _ _ _ l [] w (hl.below hM.below) (SlT.own9 hM rfl (i := 2) rfl) hq (by omega))) ?_
    refine S_ 14 rfl rfl rfl _ (y_move rfl rfl) ?_
    refine Sg_ 15 rfl rfl rfl rfl rfl rfl _ (y_move rfl rfl) ?_
    refine Sg_ 16 rfl rfl rfl rfl rfl rfl _ (y_move rfl rfl) ?_
    refine Sg_ 17 rfl rfl rfl rfl rfl rfl _ (y_bin rfl rfl rfl (fun _ => b_eql)) ?_
    refine S_ 18 rfl rfl rfl _ (y_and rfl rfl rfl) ?_
    refine S_ 8 rfl rfl rfl _ (y_assign rfl rfl) ?_
    refine S_go (fun _ _ h => h) ?_
    refine T_ret (fun a w hF hM => hRb a w (post1 rfl rfl (fun w hM => ?_) a w hF hM))
    exact ⟨by rw [hz h10]; simp [eqLB], hM.below⟩
  · try simp only [decide_eq_true_eq, decide_eq_false_iff_not, Bool.or_eq_true, Bool.or_eq_false_iff, Bool.and_eq_true, Bool.and_eq_false_iff, Bool.not_eq_true', Bool.not_eq_false', Bool.not_eq_true, Bool.not_eq_false, Bool.not_true, Bool.not_false, Int.not_lt, Int.not_le, not_or, not_and, Classical.not_not] at h10
    refine T_skip_go (fun _ _ h => h) ?_
    refine T_seq ?_
    refine T_region ?_
    refine S_ 11 rfl rfl rfl _ (y_move rfl rfl) ?_
    refine S_ 12 rfl rfl rfl _ (y_move rfl rfl) ?_
    refine S_ 13 rfl rfl rfl _ (y_call rfl rfl rfl cf181 (fun _ w hM => EqlSp_any _ _ _ _ _ _ l m w (hl.below hM.below) (hm.below hM.below) hq hp)) ?_
    refine S_ 14 rfl rfl rfl _ (y_move rfl rfl) ?_
    refine Sg_ 15 rfl rfl rfl rfl rfl rfl _ (y_move rfl rfl) ?_
    refine Sg_ 16 rfl rfl rfl rfl rfl rfl _ (y_move rfl rfl) ?_
    refine Sg_ 17 rfl rfl rfl rfl rfl rfl _ (y_bin rfl rfl rfl (fun _ => b_eql)) ?_
    refine S_ 18 rfl rfl rfl _ (y_and rfl rfl rfl) ?_
    refine S_ 8 rfl rfl rfl _ (y_assign rfl rfl) ?_
    refine S_go (fun _ _ h => h) ?_
    refine T_ret (fun a w hF hM => hRb a w (post1 rfl rfl (fun w hM => ?_) a w hF hM))
    exact ⟨by rw [h0 h10, (eqLB_iff SSpan.eqC_iff l l).2 rfl]; simp, hM.below⟩
theorem EqlSh_any (A B : Option Addr) (q c p d : Nat) (l m : List (SShare)) (w : World) (hl : SlT SShare.enc 2 w A q l) (hm : SlT SShare.enc 2 w B p m) (hq : q ≤ 4611686018427387904) (hp : p ≤ 4611686018427387904) :
    Calls Tryz.prog 182 #[.slice A q c, .slice B p d] w fun e w' => e = .returned (.bool (eqLB SShare.eqC l m)) ∧ Below w.heap.size w w' := by
  have hlen := hl.len
  have hmen := hm.len
  refine enter_args (args := [.slice A q c, .slice B p d]) (F := _) Tryz.func182 rfl Tryz.ntmps182 rfl rfl ?_
  intro Rb hRb hRn
  refine T_seq ?_
  refine T_region ?_
  refine S_ 4 rfl rfl rfl _ (y_assign rfl rfl) ?_
  refine S_go (fun _ _ h => h) ?_
  refine T_seq ?_
  refine T_seq ?_
  refine T_region ?_
  refine S_ 6 rfl rfl rfl _ (y_move rfl rfl) ?_
  refine S_ 7 rfl rfl rfl _ (y_len_slice rfl rfl Tryz.underlying125) ?_
  refine S_ 8 rfl rfl rfl _ (y_move rfl rfl) ?_
  refine S_ 9 rfl rfl rfl _ (y_len_slice rfl rfl Tryz.underlying125) ?_
  refine S_ 10 rfl rfl rfl _ (y_bin rfl rfl rfl (fun _ => b_neq)) ?_
  refine S_go (fun _ _ h => h) ?_
  refine T_cond rfl (fun h10 => ?_) (fun h10 => ?_)
  · try simp only [decide_eq_true_eq, decide_eq_false_iff_not, Bool.or_eq_true, Bool.or_eq_false_iff, Bool.and_eq_true, Bool.and_eq_false_iff, Bool.not_eq_true', Bool.not_eq_false', Bool.not_eq_true, Bool.not_eq_false, Bool.not_true, Bool.not_false, Int.not_lt, Int.not_le, not_or, not_and, Classical.not_not] at h10
    refine T_seq ?_
    refine T_region ?_
    refine S_ 4 rfl rfl rfl _ (y_assign rfl rfl) ?_
    refine S_go (fun _ _ h => h) ?_
    refine T_ret (fun a w hF hM => hRb a w (post1 rfl rfl (fun w hM => ?_) a w hF hM))
    exact ⟨by rw [eqLB_len l m (by omega)], hM.below⟩
  · try simp only [decide_eq_true_eq, decide_eq_false_iff_not, Bool.or_eq_true, Bool.or_eq_false_iff, Bool.and_eq_true, Bool.and_eq_false_iff, Bool.not_eq_true', Bool.not_eq_false', Bool.not_eq_true, Bool.not_eq_false, Bool.not_true, Bool.not_false, Int.not_lt, Int.not_le, not_or, not_and, Classical.not_not] at h10
    refine T_skip_go (fun _ _ h => h) ?_
    refine T_seq ?_
    refine T_seq ?_
    refine T_region ?_
    refine S_ 11 rfl rfl rfl _ (y_move rfl rfl) ?_
    refine S_ 12 rfl rfl rfl _ (y_len_slice rfl rfl Tryz.underlying125) ?_
    refine S_ 13 rfl rfl rfl _ (y_move rfl rfl) ?_
    refine S_go (fun _ _ h => h) ?_
    refine T_block ?_
    refine T_loopK1 (kf := [(4, 5), (13, 25)]) (kl := [(4, 5), (13, 25)]) (fun (i : Nat) => [(13, true, .int .i64 (i : Int))]) (fun (i : Nat) => []) (fun (i : Nat) => i ≤ q ∧ eqLB SShare.eqC l m = eqLB SShare.eqC (l.drop i) (m.drop i)) (fun (i : Nat) => q - i) 0 (by repeat (first | exact kf_nil | (apply kf_in; focus rfl) | (apply kf_out; focus rfl))) (by repeat (first | exact kl_nil | exact kl_rest (by assumption) rfl | (apply kl_in; focus rfl) | (apply kl_out; focus rfl))) ?_ ?_ ?_ ?_
    · exact ⟨by omega, rfl⟩
    · exact ⟨rfl, trivial⟩
    · exact trivial
    rintro i ⟨hp1, hp2⟩
    refine T_seq ?_
    refine T_region ?_
    refine S_ 14 rfl rfl rfl _ (y_bin rfl rfl rfl (fun _ => b_lss)) ?_
    refine S_go (fun _ _ h => h) ?_
    refine T_seq ?_
    refine T_cond rfl (fun h14 => ?_) (fun h14 => ?_)
    · try simp only [decide_eq_true_eq, decide_eq_false_iff_not, Bool.or_eq_true, Bool.or_eq_false_iff, Bool.and_eq_true, Bool.and_eq_false_iff, Bool.not_eq_true', Bool.not_eq_false', Bool.not_eq_true, Bool.not_eq_false, Bool.not_true, Bool.not_false, Int.not_lt, Int.not_le, not_or, not_and, Classical.not_not] at h14
      obtain ⟨a, hx1, hx2⟩ := hl.at (i := i) (by omega)
      obtain ⟨b, hy1, hy2⟩ := hm.at (i := i) (by omega)
      refine T_skip_go (fun _ _ h => h) ?_
      refine T_seq ?_
      refine T_block ?_
      refine T_seq ?_
      refine T_region ?_
      refine S_ 15 rfl rfl rfl _ (y_move rfl rfl) ?_
      refine S_ 5 rfl rfl rfl _ (y_assign rfl rfl) ?_
      refine S_go (fun _ _ h => h) ?_
      refine T_seq ?_
      refine T_draws (by kernel_rfl) (by kernel_rfl) ?_
      refine D_ 16 rfl rfl rfl _ (y_move rfl rfl) ?_
      refine D_ 17 rfl rfl rfl _ (y_move rfl rfl) ?_
      refine D_ 18 rfl rfl rfl _ (y_indexAddr rfl rfl rfl Tryz.underlying125 sz140 (fun hg => hl.isSome (by omega)) (fun _ => by omega)) ?_
      refine D_ 19 rfl rfl rfl _ (y_loadT rfl rfl hl (fun _ => rfl) (fun _ => hx1) Tryz.underlying140 rfl sz140) ?_
      refine D_ 20 rfl rfl rfl _ (y_move rfl rfl) ?_
      refine D_ 21 rfl rfl rfl _ (y_move rfl rfl) ?_
      refine D_ 22 rfl rfl rfl _ (y_indexAddr rfl rfl rfl Tryz.underlying125 sz140 (fun hg => hm.isSome (by omega)) (fun _ => by omega)) ?_
      refine D_ 23 rfl rfl rfl _ (y_loadT rfl rfl hm (fun _ => rfl) (fun _ => hy1) Tryz.underlying140 rfl sz140) ?_
      refine D_ 24 rfl rfl rfl _ (y_as (v' := .bool (!(SShare.eqC a b))) (by simp [SShare.eqC, str]) (y_bin rfl rfl rfl (fun _ => b_neqA (rs := [_, _]) Tryz.underlying140 (by kernel_rfl) (by kernel_rfl) ⟨by decide, ⟨_, Tryz.underlying9, rfl, _, _, rfl, rfl, rfl⟩, by decide, ⟨_, Tryz.underlying3, rfl, _, _, rfl, rfl, rfl⟩, trivial⟩))) ?_
      refine D_go (fun _ _ h => h) ?_
      refine T_cond rfl (fun h24 => ?_) (fun h24 => ?_)
      · skip
        have h24e : SShare.eqC a b = false := by simpa using h24
        refine T_seq ?_
        refine T_region ?_
        refine S_ 4 rfl rfl rfl _ (y_assign rfl rfl) ?_
        refine S_go (fun _ _ h => h) ?_
        refine T_ret (fun a w hF hM => hRb a w (post1 rfl rfl (fun w hM => ?_) a w hF hM))
        exact ⟨by rw [hp2, hx2, hy2, eqLB, h24e, Bool.false_and], hM.below⟩
      · skip
        have h24e : SShare.eqC a b = true := by simpa using h24
        refine T_skip_go (fun _ _ h => h) ?_
        refine T_region ?_
        refine S_ 25 rfl rfl rfl _ (y_bin rfl rfl rfl (fun hg => b_add (by omega))) ?_
        refine S_ 13 rfl rfl rfl _ (y_move rfl rfl) ?_
        refine S_nil (nextK1 (kf := [(4, 5), (13, 25)]) (kl := [(4, 5), (13, 25)]) (i + 1) (by repeat (first | exact kf_nil | (apply kf_in; focus rfl) | (apply kf_out; focus rfl))) (by repeat (first | exact kl_nil | exact kl_rest (by assumption) rfl | (apply kl_in; focus rfl) | (apply kl_out; focus rfl))) ?_ ?_ ?_ ?_)
        · omega
        · exact ⟨by omega, by rw [hp2, hx2, hy2, eqLB, h24e, Bool.true_and]⟩
        · exact ⟨rfl, trivial⟩
        · exact trivial
    · try simp only [decide_eq_true_eq, decide_eq_false_iff_not, Bool.or_eq_true, Bool.or_eq_false_iff, Bool.and_eq_true, Bool.and_eq_false_iff, Bool.not_eq_true', Bool.not_eq_false', Bool.not_eq_true, Bool.not_eq_false, Bool.not_true, Bool.not_false, Int.not_lt, Int.not_le, not_or, not_and, Classical.not_not] at h14
      refine T_exit_go (fun _ _ h => h) ?_
      refine T_seq ?_
      refine T_region ?_
      refine S_ 4 rfl rfl rfl _ (y_assign rfl rfl) ?_
      refine S_go (fun _ _ h => h) ?_
      refine T_ret (fun a w hF hM => hRb a w (post1 rfl rfl (fun w hM => ?_) a w hF hM))
      exact ⟨by rw [hp2, hl.end (by omega), hm.end (by omega)]; rfl, hM.below⟩
theorem listedSh_any (A B : Option Addr) (q c p d : Nat) (l m : List (SShare)) (e x : Int) (w : World) (hl : SlT SShare.enc 2 w A q l) (hm : SlT SShare.enc 2 w B p m) (hq : q ≤ 4611686018427387904) (hp : p ≤ 4611686018427387904) (he : e = x) (hz : x ≠ 0 → l = []) (h0 : x = 0 → m = l) :
    Calls Tryz.prog 72 #[.slice A q c, .int .i64 e, .slice B p d, .int .i64 x] w fun e w' => e = .returned (.bool true) ∧ Below w.heap.size w w' := by
  subst he
  refine enter_args (args := [.slice A q c, .int .i64 e, .slice B p d, .int .i64 e]) (F := _) Tryz.func72 rfl Tryz.ntmps72 rfl rfl ?_
  intro Rb hRb hRn
  refine T_seq ?_
  refine T_region ?_
  refine S_ 8 rfl rfl rfl _ (y_assign rfl rfl) ?_
  refine S_go (fun _ _ h => h) ?_
  refine T_seq ?_
  refine T_seq ?_
  refine T_region ?_
  refine S_ 9 rfl rfl rfl _ (y_move rfl rfl) ?_
  refine S_ 10 rfl rfl rfl _ (y_bin rfl rfl rfl (fun _ => b_neq)) ?_
  refine S_go (fun _ _ h => h) ?_
  refine T_cond rfl (fun h10 => ?_) (fun h10 => ?_)
  · try simp only [decide_eq_true_eq, decide_eq_false_iff_not, Bool.or_eq_true, Bool.or_eq_false_iff, Bool.and_eq_true, Bool.and_eq_false_iff, Bool.not_eq_true', Bool.not_eq_false', Bool.not_eq_true, Bool.not_eq_false, Bool.not_true, Bool.not_false, Int.not_lt, Int.not_le, not_or, not_and, Classical.not_not] at h10
    refine T_region ?_
    refine S_nilSlice 2 (e := 140) (size := 2) ?_
    refine S_ 2 rfl rfl rfl _ (y_assign rfl rfl) ?_
    refine S_go (fun _ _ h => h) ?_
    refine T_seq ?_
    refine T_region ?_
    refine S_ 11 rfl rfl rfl _ (y_move rfl rfl) ?_
    refine S_ 12 rfl rfl rfl _ (y_move rfl rfl) ?_
    refine S_ 13 rfl rfl rfl _ (y_call rfl rfl rfl cf182 (fun _ w hM => EqlSh_any _ _ _ _ _ _ l [] w (hl.below hM.below) (SlT.own9 hM rfl (i := 2) rfl) hq (by omega))) ?_
    refine S_ 14 rfl rfl rfl _ (y_move rfl rfl) ?_
    refine Sg_ 15 rfl rfl rfl rfl rfl rfl _ (y_move rfl rfl) ?_
    refine Sg_ 16 rfl rfl rfl rfl rfl rfl _ (y_move rfl rfl) ?_
    refine Sg_ 17 rfl rfl rfl rfl rfl rfl _ (y_bin rfl rfl rfl (fun _ => b_eql)) ?_
    refine S_ 18 rfl rfl rfl _ (y_and rfl rfl rfl) ?_
    refine S_ 8 rfl rfl rfl _ (y_assign rfl rfl) ?_
    refine S_go (fun _ _ h => h) ?_
    refine T_ret (fun a w hF hM => hRb a w (post1 rfl rfl (fun w hM => ?_) a w hF hM))
    exact ⟨by rw [hz h10]; simp [eqLB], hM.below⟩
  · try simp only [decide_eq_true_eq, decide_eq_false_iff_not, Bool.or_eq_true, Bool.or_eq_false_iff, Bool.and_eq_true, Bool.and_eq_false_iff, Bool.not_eq_true', Bool.not_eq_false', Bool.not_eq_true, Bool.not_eq_false, Bool.not_true, Bool.not_false, Int.not_lt, Int.not_le, not_or, not_and, Classical.not_not] at h10
    refine T_skip_go (fun _ _ h => h) ?_
    refine T_seq ?_
    refine T_region ?_
    refine S_ 11 rfl rfl rfl _ (y_move rfl rfl) ?_
    refine S_ 12 rfl rfl rfl _ (y_move rfl rfl) ?_
    refine S_ 13 rfl rfl rfl _ (y_call rfl rfl rfl cf182 (fun _ w hM => EqlSh_any _ _ _ _ _ _ l m w (hl.below hM.below) (hm.below hM.below) hq hp)) ?_
    refine S_ 14 rfl rfl rfl _ (y_move rfl rfl) ?_
    refine Sg_ 15 rfl rfl rfl rfl rfl rfl _ (y_move rfl rfl) ?_
    refine Sg_ 16 rfl rfl rfl rfl rfl rfl _ (y_move rfl rfl) ?_
    refine Sg_ 17 rfl rfl rfl rfl rfl rfl _ (y_bin rfl rfl rfl (fun _ => b_eql)) ?_
    refine S_ 18 rfl rfl rfl _ (y_and rfl rfl rfl) ?_
    refine S_ 8 rfl rfl rfl _ (y_assign rfl rfl) ?_
    refine S_go (fun _ _ h => h) ?_
    refine T_ret (fun a w hF hM => hRb a w (post1 rfl rfl (fun w hM => ?_) a w hF hM))
    exact ⟨by rw [h0 h10, (eqLB_iff SShare.eqC_iff l l).2 rfl]; simp, hM.below⟩
theorem EqlNm_any (A B : Option Addr) (q c p d : Nat) (l m : List (Nm)) (w : World) (hl : SlT strEnc 1 w A q l) (hm : SlT strEnc 1 w B p m) (hq : q ≤ 4611686018427387904) (hp : p ≤ 4611686018427387904) :
    Calls Tryz.prog 155 #[.slice A q c, .slice B p d] w fun e w' => e = .returned (.bool (eqLB nmEqC l m)) ∧ Below w.heap.size w w' := by
  have hlen := hl.len
  have hmen := hm.len
  refine enter_args (args := [.slice A q c, .slice B p d]) (F := _) Tryz.func155 rfl Tryz.ntmps155 rfl rfl ?_
  intro Rb hRb hRn
  refine T_seq ?_
  refine T_region ?_
  refine S_ 4 rfl rfl rfl _ (y_assign rfl rfl) ?_
  refine S_go (fun _ _ h => h) ?_
  refine T_seq ?_
  refine T_seq ?_
  refine T_region ?_
  refine S_ 6 rfl rfl rfl _ (y_move rfl rfl) ?_
  refine S_ 7 rfl rfl rfl _ (y_len_slice rfl rfl Tryz.underlying57) ?_
  refine S_ 8 rfl rfl rfl _ (y_move rfl rfl) ?_
  refine S_ 9 rfl rfl rfl _ (y_len_slice rfl rfl Tryz.underlying57) ?_
  refine S_ 10 rfl rfl rfl _ (y_bin rfl rfl rfl (fun _ => b_neq)) ?_
  refine S_go (fun _ _ h => h) ?_
  refine T_cond rfl (fun h10 => ?_) (fun h10 => ?_)
  · try simp only [decide_eq_true_eq, decide_eq_false_iff_not, Bool.or_eq_true, Bool.or_eq_false_iff, Bool.and_eq_true, Bool.and_eq_false_iff, Bool.not_eq_true', Bool.not_eq_false', Bool.not_eq_true, Bool.not_eq_false, Bool.not_true, Bool.not_false, Int.not_lt, Int.not_le, not_or, not_and, Classical.not_not] at h10
    refine T_seq ?_
    refine T_region ?_
    refine S_ 4 rfl rfl rfl _ (y_assign rfl rfl) ?_
    refine S_go (fun _ _ h => h) ?_
    refine T_ret (fun a w hF hM => hRb a w (post1 rfl rfl (fun w hM => ?_) a w hF hM))
    exact ⟨by rw [eqLB_len l m (by omega)], hM.below⟩
  · try simp only [decide_eq_true_eq, decide_eq_false_iff_not, Bool.or_eq_true, Bool.or_eq_false_iff, Bool.and_eq_true, Bool.and_eq_false_iff, Bool.not_eq_true', Bool.not_eq_false', Bool.not_eq_true, Bool.not_eq_false, Bool.not_true, Bool.not_false, Int.not_lt, Int.not_le, not_or, not_and, Classical.not_not] at h10
    refine T_skip_go (fun _ _ h => h) ?_
    refine T_seq ?_
    refine T_seq ?_
    refine T_region ?_
    refine S_ 11 rfl rfl rfl _ (y_move rfl rfl) ?_
    refine S_ 12 rfl rfl rfl _ (y_len_slice rfl rfl Tryz.underlying57) ?_
    refine S_ 13 rfl rfl rfl _ (y_move rfl rfl) ?_
    refine S_go (fun _ _ h => h) ?_
    refine T_block ?_
    refine T_loopK1 (kf := [(4, 5), (13, 25)]) (kl := [(4, 5), (13, 25)]) (fun (i : Nat) => [(13, true, .int .i64 (i : Int))]) (fun (i : Nat) => []) (fun (i : Nat) => i ≤ q ∧ eqLB nmEqC l m = eqLB nmEqC (l.drop i) (m.drop i)) (fun (i : Nat) => q - i) 0 (by repeat (first | exact kf_nil | (apply kf_in; focus rfl) | (apply kf_out; focus rfl))) (by repeat (first | exact kl_nil | exact kl_rest (by assumption) rfl | (apply kl_in; focus rfl) | (apply kl_out; focus rfl))) ?_ ?_ ?_ ?_
    · exact ⟨by omega, rfl⟩
    · exact ⟨rfl, trivial⟩
    · exact trivial
    rintro i ⟨hp1, hp2⟩
    refine T_seq ?_
    refine T_region ?_
    refine S_ 14 rfl rfl rfl _ (y_bin rfl rfl rfl (fun _ => b_lss)) ?_
    refine S_go (fun _ _ h => h) ?_
    refine T_seq ?_
    refine T_cond rfl (fun h14 => ?_) (fun h14 => ?_)
    · try simp only [decide_eq_true_eq, decide_eq_false_iff_not, Bool.or_eq_true, Bool.or_eq_false_iff, Bool.and_eq_true, Bool.and_eq_false_iff, Bool.not_eq_true', Bool.not_eq_false', Bool.not_eq_true, Bool.not_eq_false, Bool.not_true, Bool.not_false, Int.not_lt, Int.not_le, not_or, not_and, Classical.not_not] at h14
      obtain ⟨a, hx1, hx2⟩ := hl.at (i := i) (by omega)
      obtain ⟨b, hy1, hy2⟩ := hm.at (i := i) (by omega)
      refine T_skip_go (fun _ _ h => h) ?_
      refine T_seq ?_
      refine T_block ?_
      refine T_seq ?_
      refine T_region ?_
      refine S_ 15 rfl rfl rfl _ (y_move rfl rfl) ?_
      refine S_ 5 rfl rfl rfl _ (y_assign rfl rfl) ?_
      refine S_go (fun _ _ h => h) ?_
      refine T_seq ?_
      refine T_draws (by kernel_rfl) (by kernel_rfl) ?_
      refine D_ 16 rfl rfl rfl _ (y_move rfl rfl) ?_
      refine D_ 17 rfl rfl rfl _ (y_move rfl rfl) ?_
      refine D_ 18 rfl rfl rfl _ (y_indexAddr rfl rfl rfl Tryz.underlying57 sz9 (fun hg => hl.isSome (by omega)) (fun _ => by omega)) ?_
      refine D_ 19 rfl rfl rfl _ (y_loadT1 (val := (fun l : List UInt8 => str l)) rfl rfl hl (fun _ => hx1) Tryz.underlying9 rfl) ?_
      refine D_ 20 rfl rfl rfl _ (y_move rfl rfl) ?_
      refine D_ 21 rfl rfl rfl _ (y_move rfl rfl) ?_
      refine D_ 22 rfl rfl rfl _ (y_indexAddr rfl rfl rfl Tryz.underlying57 sz9 (fun hg => hm.isSome (by omega)) (fun _ => by omega)) ?_
      refine D_ 23 rfl rfl rfl _ (y_loadT1 (val := (fun l : List UInt8 => str l)) rfl rfl hm (fun _ => hy1) Tryz.underlying9 rfl) ?_
      refine D_ 24 rfl rfl rfl _ (y_as (v' := .bool (!(nmEqC a b))) (by rw [show (decide (a = b)) = nmEqC a b from rfl]) (y_bin rfl rfl rfl (fun _ => b_neqs))) ?_
      refine D_go (fun _ _ h => h) ?_
      refine T_cond rfl (fun h24 => ?_) (fun h24 => ?_)
      · skip
        have h24e : nmEqC a b = false := by simpa using h24
        refine T_seq ?_
        refine T_region ?_
        refine S_ 4 rfl rfl rfl _ (y_assign rfl rfl) ?_
        refine S_go (fun _ _ h => h) ?_
        refine T_ret (fun a w hF hM => hRb a w (post1 rfl rfl (fun w hM => ?_) a w hF hM))
        exact ⟨by rw [hp2, hx2, hy2, eqLB, h24e, Bool.false_and], hM.below⟩
      · skip
        have h24e : nmEqC a b = true := by simpa using h24
        refine T_skip_go (fun _ _ h => h) ?_
        refine T_region ?_
        refine S_ 25 rfl rfl rfl _ (y_bin rfl rfl rfl (fun hg => b_add (by omega))) ?_
        refine S_ 13 rfl rfl rfl _ (y_move rfl rfl) ?_
        refine S_nil (nextK1 (kf := [(4, 5), (13, 25)]) (kl := [(4, 5), (13, 25)]) (i + 1) (by repeat (first | exact kf_nil | (apply kf_in; focus rfl) | (apply kf_out; focus rfl))) (by repeat (first | exact kl_nil | exact kl_rest (by assumption) rfl | (apply kl_in; focus rfl) | (apply kl_out; focus rfl))) ?_ ?_ ?_ ?_)
        · omega
        · exact ⟨by omega, by rw [hp2, hx2, hy2, eqLB, h24e, Bool.true_and]⟩
        · exact ⟨rfl, trivial⟩
        · exact trivial
    · try simp only [decide_eq_true_eq, decide_eq_false_iff_not, Bool.or_eq_true, Bool.or_eq_false_iff, Bool.and_eq_true, Bool.and_eq_false_iff, Bool.not_eq_true', Bool.not_eq_false', Bool.not_eq_true, Bool.not_eq_false, Bool.not_true, Bool.not_false, Int.not_lt, Int.not_le, not_or, not_and, Classical.not_not] at h14
      refine T_exit_go (fun _ _ h => h) ?_
      refine T_seq ?_
      refine T_region ?_
      refine S_ 4 rfl rfl rfl _ (y_assign rfl rfl) ?_
      refine S_go (fun _ _ h => h) ?_
      refine T_ret (fun a w hF hM => hRb a w (post1 rfl rfl (fun w hM => ?_) a w hF hM))
      exact ⟨by rw [hp2, hl.end (by omega), hm.end (by omega)]; rfl, hM.below⟩
theorem listedNm_any (A B : Option Addr) (q c p d : Nat) (l m : List (Nm)) (e x : Int) (w : World) (hl : SlT strEnc 1 w A q l) (hm : SlT strEnc 1 w B p m) (hq : q ≤ 4611686018427387904) (hp : p ≤ 4611686018427387904) (he : e = x) (hz : x ≠ 0 → l = []) (h0 : x = 0 → m = l) :
    Calls Tryz.prog 49 #[.slice A q c, .int .i64 e, .slice B p d, .int .i64 x] w fun e w' => e = .returned (.bool true) ∧ Below w.heap.size w w' := by
  subst he
  refine enter_args (args := [.slice A q c, .int .i64 e, .slice B p d, .int .i64 e]) (F := _) Tryz.func49 rfl Tryz.ntmps49 rfl rfl ?_
  intro Rb hRb hRn
  refine T_seq ?_
  refine T_region ?_
  refine S_ 8 rfl rfl rfl _ (y_assign rfl rfl) ?_
  refine S_go (fun _ _ h => h) ?_
  refine T_seq ?_
  refine T_seq ?_
  refine T_region ?_
  refine S_ 9 rfl rfl rfl _ (y_move rfl rfl) ?_
  refine S_ 10 rfl rfl rfl _ (y_bin rfl rfl rfl (fun _ => b_neq)) ?_
  refine S_go (fun _ _ h => h) ?_
  refine T_cond rfl (fun h10 => ?_) (fun h10 => ?_)
  · try simp only [decide_eq_true_eq, decide_eq_false_iff_not, Bool.or_eq_true, Bool.or_eq_false_iff, Bool.and_eq_true, Bool.and_eq_false_iff, Bool.not_eq_true', Bool.not_eq_false', Bool.not_eq_true, Bool.not_eq_false, Bool.not_true, Bool.not_false, Int.not_lt, Int.not_le, not_or, not_and, Classical.not_not] at h10
    refine T_region ?_
    refine S_nilSlice 2 (e := 9) (size := 1) ?_
    refine S_ 2 rfl rfl rfl _ (y_assign rfl rfl) ?_
    refine S_go (fun _ _ h => h) ?_
    refine T_seq ?_
    refine T_region ?_
    refine S_ 11 rfl rfl rfl _ (y_move rfl rfl) ?_
    refine S_ 12 rfl rfl rfl _ (y_move rfl rfl) ?_
    refine S_ 13 rfl rfl rfl _ (y_call rfl rfl rfl cf155 (fun _ w hM => EqlNm_any _ _ _ _ _ _ l [] w (hl.below hM.below) (SlT.own9 hM rfl (i := 2) rfl) hq (by omega))) ?_
    refine S_ 14 rfl rfl rfl _ (y_move rfl rfl) ?_
    refine Sg_ 15 rfl rfl rfl rfl rfl rfl _ (y_move rfl rfl) ?_
    refine Sg_ 16 rfl rfl rfl rfl rfl rfl _ (y_move rfl rfl) ?_
    refine Sg_ 17 rfl rfl rfl rfl rfl rfl _ (y_bin rfl rfl rfl (fun _ => b_eql)) ?_
    refine S_ 18 rfl rfl rfl _ (y_and rfl rfl rfl) ?_
    refine S_ 8 rfl rfl rfl _ (y_assign rfl rfl) ?_
    refine S_go (fun _ _ h => h) ?_
    refine T_ret (fun a w hF hM => hRb a w (post1 rfl rfl (fun w hM => ?_) a w hF hM))
    exact ⟨by rw [hz h10]; simp [eqLB], hM.below⟩
  · try simp only [decide_eq_true_eq, decide_eq_false_iff_not, Bool.or_eq_true, Bool.or_eq_false_iff, Bool.and_eq_true, Bool.and_eq_false_iff, Bool.not_eq_true', Bool.not_eq_false', Bool.not_eq_true, Bool.not_eq_false, Bool.not_true, Bool.not_false, Int.not_lt, Int.not_le, not_or, not_and, Classical.not_not] at h10
    refine T_skip_go (fun _ _ h => h) ?_
    refine T_seq ?_
    refine T_region ?_
    refine S_ 11 rfl rfl rfl _ (y_move rfl rfl) ?_
    refine S_ 12 rfl rfl rfl _ (y_move rfl rfl) ?_
    refine S_ 13 rfl rfl rfl _ (y_call rfl rfl rfl cf155 (fun _ w hM => EqlNm_any _ _ _ _ _ _ l m w (hl.below hM.below) (hm.below hM.below) hq hp)) ?_
    refine S_ 14 rfl rfl rfl _ (y_move rfl rfl) ?_
    refine Sg_ 15 rfl rfl rfl rfl rfl rfl _ (y_move rfl rfl) ?_
    refine Sg_ 16 rfl rfl rfl rfl rfl rfl _ (y_move rfl rfl) ?_
    refine Sg_ 17 rfl rfl rfl rfl rfl rfl _ (y_bin rfl rfl rfl (fun _ => b_eql)) ?_
    refine S_ 18 rfl rfl rfl _ (y_and rfl rfl rfl) ?_
    refine S_ 8 rfl rfl rfl _ (y_assign rfl rfl) ?_
    refine S_go (fun _ _ h => h) ?_
    refine T_ret (fun a w hF hM => hRb a w (post1 rfl rfl (fun w hM => ?_) a w hF hM))
    exact ⟨by rw [h0 h10, (eqLB_iff nmEqC_iff l l).2 rfl]; simp, hM.below⟩
theorem first2_any (A : Option Addr) (c : Nat) (m k : Int) (w : World) (hl : SlT intEnc 1 w A 2 [m, k]) : Calls Tryz.prog 11 #[.slice A 2 c] w fun e w' => e = .returned (.int .i64 (fst m k)) ∧ Below w.heap.size w w' := by
  refine enter_args (args := [.slice A 2 c]) (F := _) Tryz.func11 rfl Tryz.ntmps11 rfl rfl ?_
  intro Rb hRb hRn
  refine T_seq ?_
  refine T_region ?_
  refine S_ 2 rfl rfl rfl _ (y_assign rfl rfl) ?_
  refine S_go (fun _ _ h => h) ?_
  refine T_seq ?_
  refine T_seq ?_
  refine T_region ?_
  refine S_ 5 rfl rfl rfl _ (y_move rfl rfl) ?_
  refine S_ 6 rfl rfl rfl _ (y_len_slice rfl rfl Tryz.underlying143) ?_
  refine S_ 7 rfl rfl rfl _ (y_move rfl rfl) ?_
  refine S_go (fun _ _ h => h) ?_
  refine T_block ?_
  refine T_loopK1 (kf := [(2, 2), (4, 4), (7, 14)]) (kl := [(2, 2), (4, 4), (7, 14)]) (fun (i : Nat) => [(7, true, .int .i64 (i : Int))]) (fun (i : Nat) => []) (fun (i : Nat) => i ≤ 2 ∧ fst m k = (([m, k].drop i).find? (fun x => decide (x ≠ 0))).getD 0) (fun (i : Nat) => 2 - i) 0 (by repeat (first | exact kf_nil | (apply kf_in; focus rfl) | (apply kf_out; focus rfl))) (by repeat (first | exact kl_nil | exact kl_rest (by assumption) rfl | (apply kl_in; focus rfl) | (apply kl_out; focus rfl))) ?_ ?_ ?_ ?_
  · exact ⟨by omega, by by_cases hm : m = 0 <;> by_cases hk : k = 0 <;> simp [fst, hm, hk]⟩
  · exact ⟨rfl, trivial⟩
  · exact trivial
  rintro i ⟨hp1, hp2⟩
  refine T_seq ?_
  refine T_region ?_
  refine S_ 8 rfl rfl rfl _ (y_bin rfl rfl rfl (fun _ => b_lss)) ?_
  refine S_go (fun _ _ h => h) ?_
  refine T_seq ?_
  refine T_cond rfl (fun h8 => ?_) (fun h8 => ?_)
  · try simp only [decide_eq_true_eq, decide_eq_false_iff_not, Bool.or_eq_true, Bool.or_eq_false_iff, Bool.and_eq_true, Bool.and_eq_false_iff, Bool.not_eq_true', Bool.not_eq_false', Bool.not_eq_true, Bool.not_eq_false, Bool.not_true, Bool.not_false, Int.not_lt, Int.not_le, not_or, not_and, Classical.not_not] at h8
    obtain ⟨x, hx1, hx2⟩ := hl.at (i := i) (by omega)
    refine T_skip_go (fun _ _ h => h) ?_
    refine T_seq ?_
    refine T_block ?_
    refine T_seq ?_
    refine T_region ?_
    refine S_ 9 rfl rfl rfl _ (y_indexAddr rfl rfl rfl Tryz.underlying143 sz30 (fun hg => hl.isSome (by omega)) (fun _ => by omega)) ?_
    refine S_ 10 rfl rfl rfl _ (y_loadT1 (val := (fun n : Int => Value.int .i64 n)) rfl rfl hl (fun _ => hx1) Tryz.underlying30 rfl) ?_
    refine S_ 4 rfl rfl rfl _ (y_assign rfl rfl) ?_
    refine S_go (fun _ _ h => h) ?_
    refine T_seq ?_
    refine T_region ?_
    refine S_ 11 rfl rfl rfl _ (y_move rfl rfl) ?_
    refine S_ 12 rfl rfl rfl _ (y_bin rfl rfl rfl (fun _ => b_neq)) ?_
    refine S_go (fun _ _ h => h) ?_
    refine T_cond rfl (fun h12 => ?_) (fun h12 => ?_)
    · try simp only [decide_eq_true_eq, decide_eq_false_iff_not, Bool.or_eq_true, Bool.or_eq_false_iff, Bool.and_eq_true, Bool.and_eq_false_iff, Bool.not_eq_true', Bool.not_eq_false', Bool.not_eq_true, Bool.not_eq_false, Bool.not_true, Bool.not_false, Int.not_lt, Int.not_le, not_or, not_and, Classical.not_not] at h12
      refine T_seq ?_
      refine T_region ?_
      refine S_ 13 rfl rfl rfl _ (y_move rfl rfl) ?_
      refine S_ 2 rfl rfl rfl _ (y_assign rfl rfl) ?_
      refine S_go (fun _ _ h => h) ?_
      refine T_ret (fun a w hF hM => hRb a w (post1 rfl rfl (fun w hM => ?_) a w hF hM))
      exact ⟨by rw [hp2, hx2, List.find?_cons_of_pos (by simpa using h12)]; rfl, hM.below⟩
    · try simp only [decide_eq_true_eq, decide_eq_false_iff_not, Bool.or_eq_true, Bool.or_eq_false_iff, Bool.and_eq_true, Bool.and_eq_false_iff, Bool.not_eq_true', Bool.not_eq_false', Bool.not_eq_true, Bool.not_eq_false, Bool.not_true, Bool.not_false, Int.not_lt, Int.not_le, not_or, not_and, Classical.not_not] at h12
      refine T_skip_go (fun _ _ h => h) ?_
      refine T_region ?_
      refine S_ 14 rfl rfl rfl _ (y_bin rfl rfl rfl (fun hg => b_add (by omega))) ?_
      refine S_ 7 rfl rfl rfl _ (y_move rfl rfl) ?_
      refine S_nil (nextK1 (kf := [(2, 2), (4, 4), (7, 14)]) (kl := [(2, 2), (4, 4), (7, 14)]) (i + 1) (by repeat (first | exact kf_nil | (apply kf_in; focus rfl) | (apply kf_out; focus rfl))) (by repeat (first | exact kl_nil | exact kl_rest (by assumption) rfl | (apply kl_in; focus rfl) | (apply kl_out; focus rfl))) ?_ ?_ ?_ ?_)
      · omega
      · exact ⟨by omega, by rw [hp2, hx2, List.find?_cons_of_neg (by simpa using h12)]⟩
      · exact ⟨rfl, trivial⟩
      · exact trivial
  · try simp only [decide_eq_true_eq, decide_eq_false_iff_not, Bool.or_eq_true, Bool.or_eq_false_iff, Bool.and_eq_true, Bool.and_eq_false_iff, Bool.not_eq_true', Bool.not_eq_false', Bool.not_eq_true, Bool.not_eq_false, Bool.not_true, Bool.not_false, Int.not_lt, Int.not_le, not_or, not_and, Classical.not_not] at h8
    refine T_exit_go (fun _ _ h => h) ?_
    refine T_seq ?_
    refine T_region ?_
    refine S_ 2 rfl rfl rfl _ (y_assign rfl rfl) ?_
    refine S_go (fun _ _ h => h) ?_
    refine T_ret (fun a w hF hM => hRb a w (post1 rfl rfl (fun w hM => ?_) a w hF hM))
    exact ⟨by rw [hp2, hl.end (by omega)]; rfl, hM.below⟩
theorem atOut_len2 (t : Tab) (x : Int) : (atOut t x).length ≤ t.ca.l.length + 1 := by
  unfold atOut
  simp only
  split
  · simp
  · rw [List.length_append, goPlaces_cnt, List.length_nil, List.length_singleton, Nat.zero_add, List.countP_reverse]
    have := List.countP_le_length (p := SCall.has x) (l := t.ca.l)
    omega
theorem addSpan_le (out : List SSpan) (fr tl : Int) : (addSpan out fr tl).length ≤ out.length + 1 := by
  unfold addSpan
  split
  · split
    · rw [List.length_set]; omega
    · simp
  · simp
theorem spansOf_le {size n ln : Int} : ∀ (l : List SRow) (out : List SSpan), (spansOf size n ln l out).length ≤ out.length + l.length
  | [], out => Nat.le_refl _
  | r :: rest, out => by
    rw [spansOf]
    split
    · have := spansOf_le (size := size) (n := n) (ln := ln) rest out; rw [List.length_cons]; omega
    · have := spansOf_le (size := size) (n := n) (ln := ln) rest (addSpan out r.pos (rowEnd size rest))
      have := addSpan_le out r.pos (rowEnd size rest)
      rw [List.length_cons]; omega
theorem linesOut_le (t : Tab) (file : List UInt8) (ln : Int) : (linesOut t file ln).length ≤ t.ro.l.length := by
  unfold linesOut
  split
  · have := spansOf_le (size := t.size) (n := findI (eqS file) t.fi.l 0) (ln := ln) t.ro.l []
    simpa using this
  · simp
theorem difO_le (t u : Tab) : (difO t u).length ≤ (difNs t u).length := by
  have : ∀ l : List Nm, (difL (szT t) (szT u) l).length ≤ l.length := fun l => by
    induction l with
    | nil => simp [difL]
    | cons a r ih =>
      rw [difL, List.flatMap_cons, List.length_append, List.length_cons]
      have := dif1_len (gi (szT t) a) (gi (szT u) a) a
      have ih : (List.flatMap (fun n => dif1 (gi (szT t) n) (gi (szT u) n) n) r).length ≤ r.length := ih
      omega
  exact this _
theorem refSh_le {t : Tab} {l : List SShare} (h : RefSh t l) : l.length ≤ 10000 := by
  obtain ⟨M, D, _, h2, h3, h4⟩ := h
  rw [h3, List.length_mergeSort, List.length_map, ← h2.length_eq]; exact h4
theorem shOk_le {t : Tab} {l : List SShare} (h : ShOk leS t l) : l.length ≤ 10000 := by
  by_cases h0 : tabNo t = 0
  · exact (h.sum h0).2.2
  · unfold ShOk at h; rw [if_pos h0] at h; rw [h]; simp
theorem atNo_ref {t : Tab} (x : Int) (h0 : tabNo t = 0) : atNo t x = refAtNo t x := fst_b h0 rfl
theorem atAll_ref {t : Tab} {x : Int} (h0 : tabNo t = 0) : refAt t x = atAll t x := by
  unfold refAt atAll
  cases h : outB x 0 (t.size - 1) with
  | true => simp
  | false => simp [h0]
theorem refAt_no {t : Tab} {x : Int} (h : refAtNo t x ≠ 0) : refAt t x = [] := by
  unfold refAtNo at h
  unfold refAt
  split
  · rfl
  · rename_i h1
    rw [if_neg h1] at h
    by_cases hf : findI (SFunc.has x) t.fu.l 0 < 0
    · rw [atOut]; exact if_pos hf
    · rw [if_neg hf] at h; exact absurd rfl h
theorem linesOut_no {t : Tab} {file : List UInt8} {ln : Int} (h : linesNo t file ln ≠ 0) : linesOut t file ln = [] := if_neg h
set_option maxHeartbeats 3200000 in
theorem SymbolPlaces_any (t u : Tab) (x : Int) (file : List UInt8) (ln : Int) (w : World) (hok : t.Ok w) (hou : u.Ok w) (hP : P10 w) :
    Calls Tryz.prog 9 #[.agg #[str t.id, .int .i64 t.size, .slice t.fi.A t.fi.q t.fi.c, .slice t.fu.A t.fu.q t.fu.c, .slice t.ro.A t.ro.q t.ro.c, .slice t.ca.A t.ca.q t.ca.c], .agg #[str u.id, .int .i64 u.size, .slice u.fi.A u.fi.q u.fi.c, .slice u.fu.A u.fu.q u.fu.c, .slice u.ro.A u.ro.q u.ro.c, .slice u.ca.A u.ca.q u.ca.c], .int .i64 x, str file, .int .i64 ln] w fun e w' => e = .returned (.bool true) ∧ Below w.heap.size w w' := by
  have hq := hok.small
  have hqu := hou.small
  have ha := atOut_len2 t x
  have hb := linesOut_le t file ln
  have hcl := hok.ca.t.len
  have hrl := hok.ro.t.len
  have hfl := hok.fu.t.len
  have hul := hou.fu.t.len
  have hd := difO_le t u
  have hdn := difNs_len t u
  have haA : (atAll t x).length ≤ 1001 := by
    unfold atAll
    split
    · rename_i h
      have := (rows_of h.1).2.2.2.2
      omega
    · simp
  have hrA : tabNo t = 0 → (refAt t x).length ≤ 1001 := fun h => by
    have := (rows_of h).2.2.2.2
    unfold refAt
    split
    · simp
    · omega
  have hdO : difNo t u = 0 → (difO t u).length ≤ 2000 := fun h => by
    have h1 := fst_zero (show fst (tabNo t) (tabNo u) = 0 from h)
    have := (rows_of h1.1).2.2.1
    have := (rows_of h1.2).2.2.1
    omega
  have hdA : (difA t u).length ≤ 2000 := by
    unfold difA
    split
    · exact hdO ‹_›
    · simp
  refine enter_args (args := [.agg #[str t.id, .int .i64 t.size, .slice t.fi.A t.fi.q t.fi.c, .slice t.fu.A t.fu.q t.fu.c, .slice t.ro.A t.ro.q t.ro.c, .slice t.ca.A t.ca.q t.ca.c], .agg #[str u.id, .int .i64 u.size, .slice u.fi.A u.fi.q u.fi.c, .slice u.fu.A u.fu.q u.fu.c, .slice u.ro.A u.ro.q u.ro.c, .slice u.ca.A u.ca.q u.ca.c], .int .i64 x, str file, .int .i64 ln]) (F := _) Tryz.func9 rfl Tryz.ntmps9 rfl rfl ?_
  intro Rb hRb hRn
  refine T_seq ?_
  refine T_region ?_
  refine S_box 5 5 rfl rfl rfl rfl rfl ?_
  intro b5
  refine S_box 6 6 rfl rfl rfl rfl rfl ?_
  intro b6
  refine S_ 10 rfl rfl rfl _ (y_assign rfl rfl) ?_
  refine S_go (fun _ _ h => h) ?_
  refine T_seq ?_
  refine T_region ?_
  refine S_ 28 rfl rfl rfl _ (y_loadA 5 rfl rfl rfl Tryz.underlying62 rfl sz62) ?_
  refine S_ 29 rfl rfl rfl _ (y_call rfl rfl rfl cf25 (fun _ w1 hM => TableFault_any t w1 (hok.below hM.below))) ?_
  refine S_ 11 rfl rfl rfl _ (y_assign rfl rfl) ?_
  refine S_go (fun _ _ h => h) ?_
  refine T_seq ?_
  refine T_region ?_
  refine S_ 30 rfl rfl rfl _ (y_loadA 6 rfl rfl rfl Tryz.underlying62 rfl sz62) ?_
  refine S_ 31 rfl rfl rfl _ (y_call rfl rfl rfl cf25 (fun _ w1 hM => TableFault_any u w1 (hou.below hM.below))) ?_
  refine S_ 12 rfl rfl rfl _ (y_assign rfl rfl) ?_
  refine S_go (fun _ _ h => h) ?_
  refine T_seq ?_
  refine T_region ?_
  refine S_ 33 rfl rfl rfl _ (y_loadA 5 rfl rfl rfl Tryz.underlying62 rfl sz62) ?_
  refine S_ 34 rfl rfl rfl _ (y_move rfl rfl) ?_
  refine S_callOwn 35 35 rfl rfl rfl rfl rfl rfl rfl cf62 (fun A c => .tuple #[.slice A (atAll t x).length c, .int .i64 (atNo t x)]) 134 3 ((atAll t x).length) ((atAll t x).flatMap SPlace.enc) (fun w1 hM => At_any t x w1 (hok.below hM.below)) ?_
  intro A35 c35
  refine S_ 32 rfl rfl rfl _ (y_move rfl rfl) ?_
  refine S_ 36 rfl rfl rfl _ (y_extract rfl rfl rfl) ?_
  refine S_ 37 rfl rfl rfl _ (y_extract rfl rfl rfl) ?_
  refine S_ 13 rfl rfl rfl _ (y_assign rfl rfl) ?_
  refine S_ 14 rfl rfl rfl _ (y_assign rfl rfl) ?_
  refine S_go (fun _ _ h => h) ?_
  refine T_seq ?_
  refine T_region ?_
  refine S_ 39 rfl rfl rfl _ (y_loadA 5 rfl rfl rfl Tryz.underlying62 rfl sz62) ?_
  refine S_ 40 rfl rfl rfl _ (y_move rfl rfl) ?_
  refine S_ 41 rfl rfl rfl _ (y_move rfl rfl) ?_
  refine S_callOwn 42 42 rfl rfl rfl rfl rfl rfl rfl cf63 (fun A c => .tuple #[.slice A (linesOut t file ln).length c, .int .i64 (linesNo t file ln)]) 137 2 ((linesOut t file ln).length) ((linesOut t file ln).flatMap SSpan.enc) (fun w1 hM => Lines_any t file ln w1 (hok.below hM.below)) ?_
  intro A42 c42
  refine S_ 38 rfl rfl rfl _ (y_move rfl rfl) ?_
  refine S_ 43 rfl rfl rfl _ (y_extract rfl rfl rfl) ?_
  refine S_ 44 rfl rfl rfl _ (y_extract rfl rfl rfl) ?_
  refine S_ 15 rfl rfl rfl _ (y_assign rfl rfl) ?_
  refine S_ 16 rfl rfl rfl _ (y_assign rfl rfl) ?_
  refine S_go (fun _ _ h => h) ?_
  refine T_seq ?_
  refine T_region ?_
  refine S_ 46 rfl rfl rfl _ (y_loadA 5 rfl rfl rfl Tryz.underlying62 rfl sz62) ?_
  refine S_callN 47 [] [(13, 947)] (X := List SShare × Option Addr × Nat) rfl rfl rfl rfl rfl rfl rfl cf64 rfl (fun z => .tuple #[.slice z.2.1 z.1.length z.2.2, .int .i64 (tabNo t)]) (fun z => ShOk leS t z.1) (fun z => [(13, shIt z.2.1 z.2.2 z.1)]) (fun _ => rfl) (fun _ => rfl) (fun K1 hK1 w1 hM => Shares_any sortsShares hK1 t w1 hok hM) ?_
  rintro ⟨l1, A1, c1⟩ hl1
  dsimp only at hl1
  have hl1n := shOk_le hl1
  refine S_ 45 rfl rfl rfl _ (y_move rfl rfl) ?_
  refine S_ 48 rfl rfl rfl _ (y_extract rfl rfl rfl) ?_
  refine S_ 49 rfl rfl rfl _ (y_extract rfl rfl rfl) ?_
  refine S_ 17 rfl rfl rfl _ (y_assign rfl rfl) ?_
  refine S_ 18 rfl rfl rfl _ (y_assign rfl rfl) ?_
  refine S_go (fun _ _ h => h) ?_
  refine T_seq ?_
  refine T_region ?_
  refine S_ 51 rfl rfl rfl _ (y_loadA 5 rfl rfl rfl Tryz.underlying62 rfl sz62) ?_
  refine S_ 52 rfl rfl rfl _ (y_loadA 6 rfl rfl rfl Tryz.underlying62 rfl sz62) ?_
  refine S_callOwn 53 53 rfl rfl rfl rfl rfl rfl rfl cf65 (fun A c => .tuple #[.slice A (difA t u).length c, .int .i64 (difNo t u)]) 9 1 ((difA t u).length) ((difA t u).flatMap strEnc) (fun w1 hM => Differ_any t u w1 (hok.below hM.below) (hou.below hM.below) (hP.below hM.below)) ?_
  intro A53 c53
  refine S_ 50 rfl rfl rfl _ (y_move rfl rfl) ?_
  refine S_ 54 rfl rfl rfl _ (y_extract rfl rfl rfl) ?_
  refine S_ 55 rfl rfl rfl _ (y_extract rfl rfl rfl) ?_
  refine S_ 19 rfl rfl rfl _ (y_assign rfl rfl) ?_
  refine S_ 20 rfl rfl rfl _ (y_assign rfl rfl) ?_
  refine S_go (fun _ _ h => h) ?_
  refine T_seq ?_
  refine T_region ?_
  refine S_ 56 rfl rfl rfl _ (y_move rfl rfl) ?_
  refine S_ 57 rfl rfl rfl _ (y_move rfl rfl) ?_
  refine S_ 58 rfl rfl rfl _ (y_move rfl rfl) ?_
  refine S_ 59 rfl rfl rfl _ (y_move rfl rfl) ?_
  refine S_buildSlice 60 60 rfl rfl rfl rfl rfl Tryz.underlying143 inf30 rfl (by decide) (by decide) rfl rfl (by decide) rfl (_) rfl ?_
  intro b60
  refine S_ 61 rfl rfl rfl _ (y_call rfl rfl rfl cf11 (fun _ w1 hM => first2_any _ _ (tabNo t) (tabNo u) w1 ⟨own_reads hM (i := 60) rfl, rfl⟩)) ?_
  refine S_ 21 rfl rfl rfl _ (y_assign rfl rfl) ?_
  refine S_ 22 rfl rfl rfl _ (y_assign rfl rfl) ?_
  refine S_ 23 rfl rfl rfl _ (y_assign rfl rfl) ?_
  refine S_go (fun _ _ h => h) ?_
  refine T_seq ?_
  refine T_region ?_
  refine S_nilSlice 24 (e := 134) (size := 3) ?_
  refine S_ 24 rfl rfl rfl _ (y_assign rfl rfl) ?_
  refine S_go (fun _ _ h => h) ?_
  refine T_seq ?_
  refine T_region ?_
  refine S_nilSlice 25 (e := 137) (size := 2) ?_
  refine S_ 25 rfl rfl rfl _ (y_assign rfl rfl) ?_
  refine S_go (fun _ _ h => h) ?_
  refine T_seq ?_
  refine T_region ?_
  refine S_nilSlice 26 (e := 140) (size := 2) ?_
  refine S_ 26 rfl rfl rfl _ (y_assign rfl rfl) ?_
  refine S_go (fun _ _ h => h) ?_
  refine T_seq ?_
  refine T_region ?_
  refine S_nilSlice 27 (e := 9) (size := 1) ?_
  refine S_ 27 rfl rfl rfl _ (y_assign rfl rfl) ?_
  refine S_go (fun _ _ h => h) ?_
  refine T_seq ?_
  refine T_seq ?_
  refine T_region ?_
  refine S_ 62 rfl rfl rfl _ (y_move rfl rfl) ?_
  refine S_ 63 rfl rfl rfl _ (y_bin rfl rfl rfl (fun _ => b_eql)) ?_
  refine S_go (fun _ _ h => h) ?_
  refine T_cond rfl (fun h63 => ?_) (fun h63 => ?_)
  · skip
    have h63 : tabNo t = 0 := by simpa using h63
    have hrA := hrA h63
    refine T_seq ?_
    refine T_region ?_
    refine S_ 65 rfl rfl rfl _ (y_loadA 5 rfl rfl rfl Tryz.underlying62 rfl sz62) ?_
    refine S_ 66 rfl rfl rfl _ (y_move rfl rfl) ?_
    refine S_callOwn 67 67 rfl rfl rfl rfl rfl rfl rfl cf66 (fun A c => .tuple #[.slice A (refAt t x).length c, .int .i64 (refAtNo t x)]) 134 3 ((refAt t x).length) ((refAt t x).flatMap SPlace.enc) (fun w1 hM => PlacesAt_any t x w1 (hok.below hM.below) h63) ?_
    intro A67 c67
    refine S_ 64 rfl rfl rfl _ (y_move rfl rfl) ?_
    refine S_ 68 rfl rfl rfl _ (y_extract rfl rfl rfl) ?_
    refine S_ 69 rfl rfl rfl _ (y_extract rfl rfl rfl) ?_
    refine S_ 24 rfl rfl rfl _ (y_assign rfl rfl) ?_
    refine S_ 21 rfl rfl rfl _ (y_assign rfl rfl) ?_
    refine S_go (fun _ _ h => h) ?_
    refine T_seq ?_
    refine T_region ?_
    refine S_ 71 rfl rfl rfl _ (y_loadA 5 rfl rfl rfl Tryz.underlying62 rfl sz62) ?_
    refine S_ 72 rfl rfl rfl _ (y_move rfl rfl) ?_
    refine S_ 73 rfl rfl rfl _ (y_move rfl rfl) ?_
    refine S_callOwn 74 74 rfl rfl rfl rfl rfl rfl rfl cf67 (fun A c => .tuple #[.slice A (linesOut t file ln).length c, .int .i64 (linesNo t file ln)]) 137 2 ((linesOut t file ln).length) ((linesOut t file ln).flatMap SSpan.enc) (fun w1 hM => LinesOf_any t file ln w1 (hok.below hM.below) h63) ?_
    intro A74 c74
    refine S_ 70 rfl rfl rfl _ (y_move rfl rfl) ?_
    refine S_ 75 rfl rfl rfl _ (y_extract rfl rfl rfl) ?_
    refine S_ 76 rfl rfl rfl _ (y_extract rfl rfl rfl) ?_
    refine S_ 25 rfl rfl rfl _ (y_assign rfl rfl) ?_
    refine S_ 22 rfl rfl rfl _ (y_assign rfl rfl) ?_
    refine S_go (fun _ _ h => h) ?_
    refine T_region ?_
    refine S_ 77 rfl rfl rfl _ (y_loadA 5 rfl rfl rfl Tryz.underlying62 rfl sz62) ?_
    refine S_callN 78 [] [(12, 978)] (X := List SShare × Option Addr × Nat) rfl rfl rfl rfl rfl rfl rfl cf68 rfl (fun z => .slice z.2.1 z.1.length z.2.2) (fun z => RefSh t z.1) (fun z => [(12, shIt z.2.1 z.2.2 z.1)]) (fun _ => rfl) (fun _ => rfl) (fun K1 hK1 w1 hM => SharesOf_any hK1 t w1 hok h63 hM) ?_
    rintro ⟨l2, A2, c2⟩ hl2
    dsimp only at hl2
    have hl2n := refSh_le hl2
    refine S_ 26 rfl rfl rfl _ (y_assign rfl rfl) ?_
    refine S_go (fun _ _ h => h) ?_
    refine T_seq ?_
    refine T_seq ?_
    refine T_region ?_
    refine S_ 79 rfl rfl rfl _ (y_move rfl rfl) ?_
    refine S_ 80 rfl rfl rfl _ (y_bin rfl rfl rfl (fun _ => b_eql)) ?_
    refine S_go (fun _ _ h => h) ?_
    refine T_cond rfl (fun h80 => ?_) (fun h80 => ?_)
    · skip
      have h80 : difNo t u = 0 := (by simpa using h80 : fst (tabNo t) (tabNo u) = 0)
      have hdO := hdO h80
      refine T_region ?_
      refine S_ 81 rfl rfl rfl _ (y_loadA 5 rfl rfl rfl Tryz.underlying62 rfl sz62) ?_
      refine S_ 82 rfl rfl rfl _ (y_loadA 6 rfl rfl rfl Tryz.underlying62 rfl sz62) ?_
      refine S_callOwn 83 83 rfl rfl rfl rfl rfl rfl rfl cf69 (fun A c => .slice A (difO t u).length c) 9 1 ((difO t u).length) ((difO t u).flatMap strEnc) (fun w1 hM => TablesDiffer_any t u w1 (hok.below hM.below) (hou.below hM.below) h63 (fst_zero (show fst (tabNo t) (tabNo u) = 0 from h80)).2 (hP.below hM.below)) ?_
      intro A83 c83
      refine S_ 27 rfl rfl rfl _ (y_assign rfl rfl) ?_
      refine S_go (fun _ _ h => h) ?_
      refine T_seq ?_
      refine T_region ?_
      refine S_ 84 rfl rfl rfl _ (y_move rfl rfl) ?_
      refine S_ 85 rfl rfl rfl _ (y_move rfl rfl) ?_
      refine S_ 86 rfl rfl rfl _ (y_move rfl rfl) ?_
      refine S_ 87 rfl rfl rfl _ (y_move rfl rfl) ?_
      refine S_ 88 rfl rfl rfl _ (y_call rfl rfl rfl cf70 (fun _ w1 hM => listedPl_any _ _ _ _ _ _ (atAll t x) (refAt t x) _ _ w1 (SlT.own9 hM rfl (i := 35) rfl) (SlT.own9 hM rfl (i := 67) rfl) (by omega) (by omega) (atNo_ref x h63) (fun h => by rw [← atAll_ref h63]; exact refAt_no h) (fun _ => atAll_ref h63))) ?_
      refine S_ 89 rfl rfl rfl _ (y_move rfl rfl) ?_
      refine Sg_ 90 rfl rfl rfl rfl rfl rfl _ (y_move rfl rfl) ?_
      refine Sg_ 91 rfl rfl rfl rfl rfl rfl _ (y_move rfl rfl) ?_
      refine Sg_ 92 rfl rfl rfl rfl rfl rfl _ (y_move rfl rfl) ?_
      refine Sg_ 93 rfl rfl rfl rfl rfl rfl _ (y_move rfl rfl) ?_
      refine Sg_ 94 rfl rfl rfl rfl rfl rfl _ (y_call rfl rfl rfl cf71 (fun hg w1 hM => listedSp_any _ _ _ _ _ _ (linesOut t file ln) (linesOut t file ln) _ _ w1 (SlT.own9 hM rfl (i := 42) rfl) (SlT.own9 hM rfl (i := 74) rfl) (by omega) (by omega) rfl (fun h => linesOut_no h) (fun _ => rfl))) ?_
      refine S_ 95 rfl rfl rfl _ (y_and rfl rfl rfl) ?_
      refine S_ 96 rfl rfl rfl _ (y_move rfl rfl) ?_
      refine Sg_ 97 rfl rfl rfl rfl rfl rfl _ (y_move rfl rfl) ?_
      refine Sg_ 98 rfl rfl rfl rfl rfl rfl _ (y_move rfl rfl) ?_
      refine Sg_ 99 rfl rfl rfl rfl rfl rfl _ (y_move rfl rfl) ?_
      refine Sg_ 100 rfl rfl rfl rfl rfl rfl _ (y_move rfl rfl) ?_
      refine Sg_ 101 rfl rfl rfl rfl rfl rfl _ (y_call rfl rfl rfl cf72 (fun hg w1 hM => listedSh_any _ _ _ _ _ _ l1 l2 _ _ w1 (SlT.own9 hM rfl (i := 947) rfl) (SlT.own9 hM rfl (i := 978) rfl) (Nat.le_trans hl1n (by decide)) (Nat.le_trans hl2n (by decide)) rfl (fun h => absurd h63 h) (fun _ => (shares_same h63 hl1 hl2).symm))) ?_
      refine S_ 102 rfl rfl rfl _ (y_and rfl rfl rfl) ?_
      refine S_ 103 rfl rfl rfl _ (y_move rfl rfl) ?_
      refine Sg_ 104 rfl rfl rfl rfl rfl rfl _ (y_move rfl rfl) ?_
      refine Sg_ 105 rfl rfl rfl rfl rfl rfl _ (y_move rfl rfl) ?_
      refine Sg_ 106 rfl rfl rfl rfl rfl rfl _ (y_move rfl rfl) ?_
      refine Sg_ 107 rfl rfl rfl rfl rfl rfl _ (y_move rfl rfl) ?_
      refine Sg_ 108 rfl rfl rfl rfl rfl rfl _ (y_call rfl rfl rfl cf49 (fun hg w1 hM => listedNm_any _ _ _ _ _ _ (difA t u) (difO t u) _ _ w1 (SlT.own9 hM rfl (i := 53) rfl) (SlT.own9 hM rfl (i := 83) rfl) (by omega) (by omega) rfl (fun h => absurd h80 h) (fun _ => (if_pos h80).symm))) ?_
      refine S_ 109 rfl rfl rfl _ (y_and rfl rfl rfl) ?_
      refine S_ 10 rfl rfl rfl _ (y_assign rfl rfl) ?_
      refine S_go (fun _ _ h => h) ?_
      refine T_ret (fun a w hF hM => hRb a w (post1 rfl rfl (fun w hM => ?_) a w hF hM))
      exact ⟨rfl, hM.below⟩
    · skip
      have h80 : ¬ difNo t u = 0 := (by simpa using h80 : ¬ fst (tabNo t) (tabNo u) = 0)
      refine T_skip_go (fun _ _ h => h) ?_
      refine T_seq ?_
      refine T_region ?_
      refine S_ 84 rfl rfl rfl _ (y_move rfl rfl) ?_
      refine S_ 85 rfl rfl rfl _ (y_move rfl rfl) ?_
      refine S_ 86 rfl rfl rfl _ (y_move rfl rfl) ?_
      refine S_ 87 rfl rfl rfl _ (y_move rfl rfl) ?_
      refine S_ 88 rfl rfl rfl _ (y_call rfl rfl rfl cf70 (fun _ w1 hM => listedPl_any _ _ _ _ _ _ (atAll t x) (refAt t x) _ _ w1 (SlT.own9 hM rfl (i := 35) rfl) (SlT.own9 hM rfl (i := 67) rfl) (by omega) (by omega) (atNo_ref x h63) (fun h => by rw [← atAll_ref h63]; exact refAt_no h) (fun _ => atAll_ref h63))) ?_
      refine S_ 89 rfl rfl rfl _ (y_move rfl rfl) ?_
      refine Sg_ 90 rfl rfl rfl rfl rfl rfl _ (y_move rfl rfl) ?_
      refine Sg_ 91 rfl rfl rfl rfl rfl rfl _ (y_move rfl rfl) ?_
      refine Sg_ 92 rfl rfl rfl rfl rfl rfl _ (y_move rfl rfl) ?_
      refine Sg_ 93 rfl rfl rfl rfl rfl rfl _ (y_move rfl rfl) ?_
      refine Sg_ 94 rfl rfl rfl rfl rfl rfl _ (y_call rfl rfl rfl cf71 (fun hg w1 hM => listedSp_any _ _ _ _ _ _ (linesOut t file ln) (linesOut t file ln) _ _ w1 (SlT.own9 hM rfl (i := 42) rfl) (SlT.own9 hM rfl (i := 74) rfl) (by omega) (by omega) rfl (fun h => linesOut_no h) (fun _ => rfl))) ?_
      refine S_ 95 rfl rfl rfl _ (y_and rfl rfl rfl) ?_
      refine S_ 96 rfl rfl rfl _ (y_move rfl rfl) ?_
      refine Sg_ 97 rfl rfl rfl rfl rfl rfl _ (y_move rfl rfl) ?_
      refine Sg_ 98 rfl rfl rfl rfl rfl rfl _ (y_move rfl rfl) ?_
      refine Sg_ 99 rfl rfl rfl rfl rfl rfl _ (y_move rfl rfl) ?_
      refine Sg_ 100 rfl rfl rfl rfl rfl rfl _ (y_move rfl rfl) ?_
      refine Sg_ 101 rfl rfl rfl rfl rfl rfl _ (y_call rfl rfl rfl cf72 (fun hg w1 hM => listedSh_any _ _ _ _ _ _ l1 l2 _ _ w1 (SlT.own9 hM rfl (i := 947) rfl) (SlT.own9 hM rfl (i := 978) rfl) (Nat.le_trans hl1n (by decide)) (Nat.le_trans hl2n (by decide)) rfl (fun h => absurd h63 h) (fun _ => (shares_same h63 hl1 hl2).symm))) ?_
      refine S_ 102 rfl rfl rfl _ (y_and rfl rfl rfl) ?_
      refine S_ 103 rfl rfl rfl _ (y_move rfl rfl) ?_
      refine Sg_ 104 rfl rfl rfl rfl rfl rfl _ (y_move rfl rfl) ?_
      refine Sg_ 105 rfl rfl rfl rfl rfl rfl _ (y_move rfl rfl) ?_
      refine Sg_ 106 rfl rfl rfl rfl rfl rfl _ (y_move rfl rfl) ?_
      refine Sg_ 107 rfl rfl rfl rfl rfl rfl _ (y_move rfl rfl) ?_
      refine Sg_ 108 rfl rfl rfl rfl rfl rfl _ (y_call rfl rfl rfl cf49 (fun hg w1 hM => listedNm_any _ _ _ _ _ _ (difA t u) [] _ _ w1 (SlT.own9 hM rfl (i := 53) rfl) (SlT.own9 hM rfl (i := 27) rfl) (by omega) (by omega) rfl (fun _ => if_neg h80) (fun h => absurd h h80))) ?_
      refine S_ 109 rfl rfl rfl _ (y_and rfl rfl rfl) ?_
      refine S_ 10 rfl rfl rfl _ (y_assign rfl rfl) ?_
      refine S_go (fun _ _ h => h) ?_
      refine T_ret (fun a w hF hM => hRb a w (post1 rfl rfl (fun w hM => ?_) a w hF hM))
      exact ⟨rfl, hM.below⟩
  · skip
    have h63 : ¬ tabNo t = 0 := by simpa using h63
    refine T_skip_go (fun _ _ h => h) ?_
    refine T_seq ?_
    refine T_seq ?_
    refine T_region ?_
    refine S_ 79 rfl rfl rfl _ (y_move rfl rfl) ?_
    refine S_ 80 rfl rfl rfl _ (y_bin rfl rfl rfl (fun _ => b_eql)) ?_
    refine S_go (fun _ _ h => h) ?_
    refine T_cond rfl (fun h80 => ?_) (fun h80 => ?_)
    · skip
      have h80 : difNo t u = 0 := (by simpa using h80 : fst (tabNo t) (tabNo u) = 0)
      have hdO := hdO h80
      exact absurd (fst_zero (show fst (tabNo t) (tabNo u) = 0 from h80)).1 h63
    · skip
      have h80 : ¬ difNo t u = 0 := (by simpa using h80 : ¬ fst (tabNo t) (tabNo u) = 0)
      refine T_skip_go (fun _ _ h => h) ?_
      refine T_seq ?_
      refine T_region ?_
      refine S_ 84 rfl rfl rfl _ (y_move rfl rfl) ?_
      refine S_ 85 rfl rfl rfl _ (y_move rfl rfl) ?_
      refine S_ 86 rfl rfl rfl _ (y_move rfl rfl) ?_
      refine S_ 87 rfl rfl rfl _ (y_move rfl rfl) ?_
      refine S_ 88 rfl rfl rfl _ (y_call rfl rfl rfl cf70 (fun _ w1 hM => listedPl_any _ _ _ _ _ _ (atAll t x) [] _ _ w1 (SlT.own9 hM rfl (i := 35) rfl) (SlT.own9 hM rfl (i := 24) rfl) (by omega) (by omega) (fst_a rfl h63) (fun _ => if_neg (fun h => h63 h.1)) (fun h => absurd h h63))) ?_
      refine S_ 89 rfl rfl rfl _ (y_move rfl rfl) ?_
      refine Sg_ 90 rfl rfl rfl rfl rfl rfl _ (y_move rfl rfl) ?_
      refine Sg_ 91 rfl rfl rfl rfl rfl rfl _ (y_move rfl rfl) ?_
      refine Sg_ 92 rfl rfl rfl rfl rfl rfl _ (y_move rfl rfl) ?_
      refine Sg_ 93 rfl rfl rfl rfl rfl rfl _ (y_move rfl rfl) ?_
      refine Sg_ 94 rfl rfl rfl rfl rfl rfl _ (y_call rfl rfl rfl cf71 (fun hg w1 hM => listedSp_any _ _ _ _ _ _ (linesOut t file ln) [] _ _ w1 (SlT.own9 hM rfl (i := 42) rfl) (SlT.own9 hM rfl (i := 25) rfl) (by omega) (by omega) (fst_a rfl h63) (fun _ => linesOut_no (by rw [show linesNo t file ln = tabNo t from fst_a rfl h63]; exact h63)) (fun h => absurd h h63))) ?_
      refine S_ 95 rfl rfl rfl _ (y_and rfl rfl rfl) ?_
      refine S_ 96 rfl rfl rfl _ (y_move rfl rfl) ?_
      refine Sg_ 97 rfl rfl rfl rfl rfl rfl _ (y_move rfl rfl) ?_
      refine Sg_ 98 rfl rfl rfl rfl rfl rfl _ (y_move rfl rfl) ?_
      refine Sg_ 99 rfl rfl rfl rfl rfl rfl _ (y_move rfl rfl) ?_
      refine Sg_ 100 rfl rfl rfl rfl rfl rfl _ (y_move rfl rfl) ?_
      refine Sg_ 101 rfl rfl rfl rfl rfl rfl _ (y_call rfl rfl rfl cf72 (fun hg w1 hM => listedSh_any _ _ _ _ _ _ l1 [] _ _ w1 (SlT.own9 hM rfl (i := 947) rfl) (SlT.own9 hM rfl (i := 26) rfl) (Nat.le_trans hl1n (by decide)) (by omega) rfl (fun _ => by unfold ShOk at hl1; rwa [if_pos h63] at hl1) (fun h => absurd h h63))) ?_
      refine S_ 102 rfl rfl rfl _ (y_and rfl rfl rfl) ?_
      refine S_ 103 rfl rfl rfl _ (y_move rfl rfl) ?_
      refine Sg_ 104 rfl rfl rfl rfl rfl rfl _ (y_move rfl rfl) ?_
      refine Sg_ 105 rfl rfl rfl rfl rfl rfl _ (y_move rfl rfl) ?_
      refine Sg_ 106 rfl rfl rfl rfl rfl rfl _ (y_move rfl rfl) ?_
      refine Sg_ 107 rfl rfl rfl rfl rfl rfl _ (y_move rfl rfl) ?_
      refine Sg_ 108 rfl rfl rfl rfl rfl rfl _ (y_call rfl rfl rfl cf49 (fun hg w1 hM => listedNm_any _ _ _ _ _ _ (difA t u) [] _ _ w1 (SlT.own9 hM rfl (i := 53) rfl) (SlT.own9 hM rfl (i := 27) rfl) (by omega) (by omega) rfl (fun _ => if_neg h80) (fun h => absurd h h80))) ?_
      refine S_ 109 rfl rfl rfl _ (y_and rfl rfl rfl) ?_
      refine S_ 10 rfl rfl rfl _ (y_assign rfl rfl) ?_
      refine S_go (fun _ _ h => h) ?_
      refine T_ret (fun a w hF hM => hRb a w (post1 rfl rfl (fun w hM => ?_) a w hF hM))
      exact ⟨rfl, hM.below⟩
end Go.Proofs.YtkkngcdikbhkjaaGreatDoor
end
section
namespace Go.Proofs.YtkkngcdikbhkjaaGreatDoor
set_option linter.unusedSimpArgs false
set_option linter.unusedVariables false
set_option maxRecDepth 20000
open Go.RowKit Go.Eng
section
variable {H : Type} {enc : TypeId × Value → H} {w : World}
def IntOk (n : Int) : Prop := (Lit.int .i64 n).wf = true
def ShortS (s : List UInt8) : Prop := s.length ≤ reachBytes
def strD (l : List UInt8) (d : DataW H) : Prop := d = .lit (.string l)
def intD (n : Int) (d : DataW H) : Prop := d = .lit (.int .i64 n)
theorem op_s : Opn enc Tryz.prog w 9 strEnc ShortS (strD (H := H)) := opn_str Tryz.underlying9
theorem op_i : Opn enc Tryz.prog w 3 (fun n : Int => [Value.int .i64 n]) IntOk (intD (H := H)) := opn_int Tryz.underlying3
def slV {X : Type} (s : Sl X) : List Value := [.slice s.A s.q s.c]
def slG {X : Type} (e : X → List Value) (size : Nat) (G : X → Prop) (w : World) (s : Sl X) : Prop := s.Ok e size w ∧ s.q ≤ reachBytes ∧ ∀ a ∈ s.l, G a
def funcG (f : SFunc) : Prop := ShortS f.name ∧ IntOk f.fr ∧ IntOk f.tu
def funcD (f : SFunc) (d : DataW H) : Prop := ∃ d1 d2 d3, d = .agg [d1, d2, d3] ∧ strD f.name d1 ∧ intD f.fr d2 ∧ intD f.tu d3
theorem op_func : Opn enc Tryz.prog w 196 SFunc.enc funcG (funcD (H := H)) :=
  (opn_struct Tryz.underlying196 co196 (opf_cons op_s rfl co9 (opf_cons op_i rfl co3 (opf_cons op_i rfl co3 opf_nil)))).map (fun p => (⟨p.1, p.2.1, p.2.2.1⟩ : SFunc)) (fun _ => rfl)
    (fun _ h => ⟨h.1, h.2.1, h.2.2.1⟩) (fun p d h => by obtain ⟨_, rfl, d1, _, rfl, h1, d2, _, rfl, h2, d3, _, rfl, h3, rfl⟩ := h; exact ⟨d1, d2, d3, rfl, h1, h2, h3⟩)
def rowG (f : SRow) : Prop := IntOk f.pos ∧ IntOk f.fi ∧ IntOk f.ln
def rowD (f : SRow) (d : DataW H) : Prop := ∃ d1 d2 d3, d = .agg [d1, d2, d3] ∧ intD f.pos d1 ∧ intD f.fi d2 ∧ intD f.ln d3
theorem op_row : Opn enc Tryz.prog w 198 SRow.enc rowG (rowD (H := H)) :=
  (opn_struct Tryz.underlying198 co198 (opf_cons op_i rfl co3 (opf_cons op_i rfl co3 (opf_cons op_i rfl co3 opf_nil)))).map (fun p => (⟨p.1, p.2.1, p.2.2.1⟩ : SRow)) (fun _ => rfl)
    (fun _ h => ⟨h.1, h.2.1, h.2.2.1⟩) (fun p d h => by obtain ⟨_, rfl, d1, _, rfl, h1, d2, _, rfl, h2, d3, _, rfl, h3, rfl⟩ := h; exact ⟨d1, d2, d3, rfl, h1, h2, h3⟩)
def callG (f : SCall) : Prop := ShortS f.name ∧ IntOk f.fr ∧ IntOk f.tu ∧ IntOk f.fi ∧ IntOk f.ln
def callD (f : SCall) (d : DataW H) : Prop := ∃ d1 d2 d3 d4 d5, d = .agg [d1, d2, d3, d4, d5] ∧ strD f.name d1 ∧ intD f.fr d2 ∧ intD f.tu d3 ∧ intD f.fi d4 ∧ intD f.ln d5
theorem op_call : Opn enc Tryz.prog w 200 SCall.enc callG (callD (H := H)) :=
  (opn_struct Tryz.underlying200 co200 (opf_cons op_s rfl co9 (opf_cons op_i rfl co3 (opf_cons op_i rfl co3 (opf_cons op_i rfl co3 (opf_cons op_i rfl co3 opf_nil)))))).map (fun p => (⟨p.1, p.2.1, p.2.2.1, p.2.2.2.1, p.2.2.2.2.1⟩ : SCall)) (fun _ => rfl)
    (fun _ h => ⟨h.1, h.2.1, h.2.2.1, h.2.2.2.1, h.2.2.2.2.1⟩) (fun p d h => by obtain ⟨_, rfl, d1, _, rfl, h1, d2, _, rfl, h2, d3, _, rfl, h3, d4, _, rfl, h4, d5, _, rfl, h5, rfl⟩ := h; exact ⟨d1, d2, d3, d4, d5, rfl, h1, h2, h3, h4, h5⟩)
theorem op_files : Opn enc Tryz.prog w 57 slV (slG strEnc 1 ShortS w) (SlRel (strD (H := H))) := opn_slice Tryz.underlying57 co9 (by decide) (by rw [bo9]; decide) (fun _ => rfl) op_s
theorem op_funcs : Opn enc Tryz.prog w 58 slV (slG SFunc.enc 3 funcG w) (SlRel (funcD (H := H))) := opn_slice Tryz.underlying58 co196 (by decide) (by rw [bo196]; decide) (fun _ => rfl) op_func
theorem op_rows : Opn enc Tryz.prog w 59 slV (slG SRow.enc 3 rowG w) (SlRel (rowD (H := H))) := opn_slice Tryz.underlying59 co198 (by decide) (by rw [bo198]; decide) (fun _ => rfl) op_row
theorem op_calls : Opn enc Tryz.prog w 60 slV (slG SCall.enc 5 callG w) (SlRel (callD (H := H))) := opn_slice Tryz.underlying60 co200 (by decide) (by rw [bo200]; decide) (fun _ => rfl) op_call
theorem reach_len : reachBytes ≤ 4611686018427387904 := by decide
def tabD (t : Tab) (d : DataW H) : Prop := ∃ d1 d2 d3 d4 d5 d6, d = .agg [d1, d2, d3, d4, d5, d6] ∧ strD t.id d1 ∧ intD t.size d2 ∧ SlRel strD t.fi d3 ∧ SlRel funcD t.fu d4 ∧ SlRel rowD t.ro d5 ∧ SlRel callD t.ca d6
theorem op_tab : Opn enc Tryz.prog w 62 Tab.enc (Tab.Ok w) (tabD (H := H)) :=
  (opn_struct Tryz.underlying62 co62 (opf_cons op_s rfl co9 (opf_cons op_i rfl co3 (opf_cons op_files rfl co57 (opf_cons op_funcs rfl co58 (opf_cons op_rows rfl co59 (opf_cons op_calls rfl co60 opf_nil))))))).map
    (fun p => (⟨p.1, p.2.1, p.2.2.1, p.2.2.2.1, p.2.2.2.2.1, p.2.2.2.2.2.1⟩ : Tab)) (fun _ => rfl)
    (fun p h => by
      obtain ⟨h1, _, h3, h4, h5, h6, _⟩ := h
      have := reach_len
      exact ⟨h3.1, h4.1, h5.1, h6.1, ⟨Nat.le_trans h1 this, Nat.le_trans h3.2.1 this, Nat.le_trans h4.2.1 this, Nat.le_trans h5.2.1 this, Nat.le_trans h6.2.1 this⟩,
        fun s hs => Nat.le_trans (h3.2.2 s hs) this, fun f hf => Nat.le_trans (h4.2.2 f hf).1 this, fun f hf => Nat.le_trans (h6.2.2 f hf).1 this⟩)
    (fun p d h => by obtain ⟨_, rfl, d1, _, rfl, h1, d2, _, rfl, h2, d3, _, rfl, h3, d4, _, rfl, h4, d5, _, rfl, h5, d6, _, rfl, h6, rfl⟩ := h; exact ⟨d1, d2, d3, d4, d5, d6, rfl, h1, h2, h3, h4, h5, h6⟩)
end
end Go.Proofs.YtkkngcdikbhkjaaGreatDoor
end
