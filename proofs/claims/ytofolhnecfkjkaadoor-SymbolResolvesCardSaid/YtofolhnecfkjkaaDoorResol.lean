/- Resolve. Conditions: those of the theorem. -/
import Derived.Test.YtofolhnecfkjkaaDoorMiss
namespace Go.Proofs.YtofolhnecfkjkaaDoor
set_option linter.unusedSimpArgs false
set_option linter.unusedVariables false
set_option maxRecDepth 20000
open Go.RowKit Go.Eng
def mkFrm (f : Frm) (m : List UInt8) (s : SPlace) : Frm := ⟨m, s.fn, s.fi, s.ln, f.ad, f.own⟩
def resOf (first : Bool) (f : Frm) (ms : List SMod) (ts : List Tab) : List Frm :=
  if (plOf f.ad first ms ts).1.length = 0 then [f] else (plOf f.ad first ms ts).1.map (mkFrm f (plOf f.ad first ms ts).2)
def resAll (ms : List SMod) (ts : List Tab) : Bool → List Frm → List Frm
  | _, [] => []
  | first, f :: r => resOf first f ms ts ++ resAll ms ts false r
def resNo (fs : Sl Frm) (ms : Sl SMod) (ts : Sl Tab) : Int := fst (allNo fs ms ts) (if (200 : Int) < ((resAll ms.l ts.l true fs.l).length : Int) then 4 else 0)
def resOut (fs : Sl Frm) (ms : Sl SMod) (ts : Sl Tab) : List Frm := if resNo fs ms ts = 0 then resAll ms.l ts.l true fs.l else []
set_option maxHeartbeats 800000 in
theorem Resolve_any (fs : Sl Frm) (ms : Sl SMod) (ts : Sl Tab) (w : World) (hfs : FrmsOk w fs) (hms : ModsOk w ms) (hts : TabsOk w ts) :
    Calls Tryd.prog 28 #[.slice fs.A fs.q fs.c, .slice ms.A ms.q ms.c, .slice ts.A ts.q ts.c] w fun e w' => ∃ A c, e = .returned (.tuple #[.slice A (resOut fs ms ts).length c, .int .i64 (resNo fs ms ts)]) ∧
      w'.ownsRow w.heap.size 67 6 (.slice A (resOut fs ms ts).length c) (resOut fs ms ts).length ((resOut fs ms ts).flatMap Frm.enc) ∧ Below w.heap.size w w' := by
  have hft := hfs.ok.t
  have hfq := hfs.q
  refine enter_args (args := [.slice fs.A fs.q fs.c, .slice ms.A ms.q ms.c, .slice ts.A ts.q ts.c]) (F := _) Tryd.func28 rfl Tryd.ntmps28 rfl rfl ?_
  intro Rb hRb hRn
  refine T_seq ?_
  refine T_region ?_
  refine S_nilSlice 6 (e := 67) (size := 6) ?_
  refine S_ 6 rfl rfl rfl _ (y_assign rfl rfl) ?_
  refine S_ 7 rfl rfl rfl _ (y_assign rfl rfl) ?_
  refine S_go (fun _ _ h => h) ?_
  refine T_seq ?_
  refine T_seq ?_
  refine T_region ?_
  refine S_ 16 rfl rfl rfl _ (y_move rfl rfl) ?_
  refine S_ 17 rfl rfl rfl _ (y_move rfl rfl) ?_
  refine S_ 18 rfl rfl rfl _ (y_move rfl rfl) ?_
  refine S_ 19 rfl rfl rfl _ (y_call rfl rfl rfl cf76 (fun _ w hM => checkAll_any fs ms ts w (hfs.below hM.below) (hms.below hM.below) (hts.below hM.below))) ?_
  refine S_ 8 rfl rfl rfl _ (y_assign rfl rfl) ?_
  refine S_go (fun _ _ h => h) ?_
  refine T_seq ?_
  refine T_region ?_
  refine S_ 20 rfl rfl rfl _ (y_move rfl rfl) ?_
  refine S_ 21 rfl rfl rfl _ (y_bin rfl rfl rfl (fun _ => b_neq)) ?_
  refine S_go (fun _ _ h => h) ?_
  refine T_cond rfl (fun h21 => ?_) (fun h21 => ?_)
  · try simp only [decide_eq_true_eq, decide_eq_false_iff_not, Bool.or_eq_true, Bool.or_eq_false_iff, Bool.and_eq_true, Bool.and_eq_false_iff, Bool.not_eq_true', Bool.not_eq_false', Bool.not_eq_true, Bool.not_eq_false, Bool.not_true, Bool.not_false, Int.not_lt, Int.not_le, not_or, not_and, Classical.not_not] at h21
    refine T_seq ?_
    refine T_region ?_
    refine S_ 22 rfl rfl rfl _ (y_move rfl rfl) ?_
    refine S_nilSlice 6 (e := 67) (size := 6) ?_
    refine S_ 6 rfl rfl rfl _ (y_assign rfl rfl) ?_
    refine S_ 7 rfl rfl rfl _ (y_assign rfl rfl) ?_
    refine S_go (fun _ _ h => h) ?_
    refine T_ret (fun a w hF hM => hRb a w (post2 rfl rfl rfl (fun w hM => ?_) a w hF hM))
    have e1 : resNo fs ms ts = allNo fs ms ts := fst_a rfl h21
    have e : resOut fs ms ts = [] := if_neg (by rw [e1]; exact h21)
    rw [e, e1]
    exact ⟨none, 0, rfl, hM.sat 6 _ rfl, hM.below⟩
  · try simp only [decide_eq_true_eq, decide_eq_false_iff_not, Bool.or_eq_true, Bool.or_eq_false_iff, Bool.and_eq_true, Bool.and_eq_false_iff, Bool.not_eq_true', Bool.not_eq_false', Bool.not_eq_true, Bool.not_eq_false, Bool.not_true, Bool.not_false, Int.not_lt, Int.not_le, not_or, not_and, Classical.not_not] at h21
    obtain ⟨hq2, _, hm0, ht0⟩ := allNo_zero h21
    refine T_skip_go (fun _ _ h => h) ?_
    refine T_seq ?_
    refine T_region ?_
    refine S_nilSlice 9 (e := 67) (size := 6) ?_
    refine S_ 9 rfl rfl rfl _ (y_assign rfl rfl) ?_
    refine S_go (fun _ _ h => h) ?_
    refine T_seq ?_
    refine T_seq ?_
    refine T_region ?_
    refine S_ 23 rfl rfl rfl _ (y_move rfl rfl) ?_
    refine S_ 24 rfl rfl rfl _ (y_len_slice rfl rfl Tryd.underlying57) ?_
    refine S_ 25 rfl rfl rfl _ (y_move rfl rfl) ?_
    refine S_go (fun _ _ h => h) ?_
    refine T_block ?_
    refine T_loopK5 (kf := [(9, 13), (15, 15), (25, 68)]) (kl := [(9, 13), (15, 15), (25, 68)]) (fun (i : Nat) (out : List Frm) (q : Nat) (A : Option Addr) (c : Nat) => [(25, true, .int .i64 (i : Int)), (9, true, .slice A q c)]) (fun (i : Nat) (out : List Frm) (q : Nat) (A : Option Addr) (c : Nat) => [(9, .own 67 6 (.slice A q c) q (out.flatMap Frm.enc))]) (fun (i : Nat) (out : List Frm) (q : Nat) (A : Option Addr) (c : Nat) => i ≤ fs.q ∧ q ≤ i * 1002 ∧ out.length = q ∧ resAll ms.l ts.l true fs.l = out ++ resAll ms.l ts.l (decide ((i : Int) = 0)) (fs.l.drop i)) (fun (i : Nat) (out : List Frm) (q : Nat) (A : Option Addr) (c : Nat) => fs.q - i) 0 [] 0 none 0 (by repeat (first | exact kf_nil | (apply kf_in; focus rfl) | (apply kf_out; focus rfl))) (by repeat (first | exact kl_nil | exact kl_rest (by assumption) rfl | (apply kl_in; focus rfl) | (apply kl_out; focus rfl))) ?_ ?_ ?_ ?_
    · exact ⟨by omega, by omega, rfl, rfl⟩
    · exact ⟨rfl, rfl, trivial⟩
    · exact ⟨rfl, trivial⟩
    rintro i out q A c ⟨hp1, hp2, hp3, hp4⟩
    refine T_seq ?_
    refine T_region ?_
    refine S_ 26 rfl rfl rfl _ (y_bin rfl rfl rfl (fun _ => b_lss)) ?_
    refine S_go (fun _ _ h => h) ?_
    refine T_seq ?_
    refine T_cond rfl (fun h26 => ?_) (fun h26 => ?_)
    · try simp only [decide_eq_true_eq, decide_eq_false_iff_not, Bool.or_eq_true, Bool.or_eq_false_iff, Bool.and_eq_true, Bool.and_eq_false_iff, Bool.not_eq_true', Bool.not_eq_false', Bool.not_eq_true, Bool.not_eq_false, Bool.not_true, Bool.not_false, Int.not_lt, Int.not_le, not_or, not_and, Classical.not_not] at h26
      obtain ⟨f, hx1, hx2⟩ := hft.at (i := i) (by omega)
      have hpl := plOf_len hts.n ht0 f.ad (decide ((i : Int) = 0)) ms.l
      refine T_skip_go (fun _ _ h => h) ?_
      refine T_seq ?_
      refine T_block ?_
      refine T_seq ?_
      refine T_region ?_
      refine S_ 27 rfl rfl rfl _ (y_move rfl rfl) ?_
      refine S_ 28 rfl rfl rfl _ (y_indexAddr rfl rfl rfl Tryd.underlying57 sz67 (fun hg => hft.isSome (by omega)) (fun _ => by omega)) ?_
      refine S_ 29 rfl rfl rfl _ (y_loadT rfl rfl hft (fun _ => rfl) (fun _ => hx1) Tryd.underlying67 rfl sz67) ?_
      refine S_alloc 11 11 rfl rfl rfl rfl z67 ?_
      intro b11
      refine S_ 10 rfl rfl rfl _ (y_assign rfl rfl) ?_
      refine S_store 11 rfl rfl rfl rfl rfl rfl sz67 rfl rfl ?_
      refine S_go (fun _ _ h => h) ?_
      refine T_seq ?_
      refine T_region ?_
      refine S_ 31 rfl rfl rfl _ (y_loadA 11 rfl rfl rfl Tryd.underlying67 rfl sz67) ?_
      refine S_ 32 rfl rfl rfl _ (y_move rfl rfl) ?_
      refine S_ 33 rfl rfl rfl _ (y_bin rfl rfl rfl (fun _ => b_eql)) ?_
      refine S_ 34 rfl rfl rfl _ (y_move rfl rfl) ?_
      refine S_ 35 rfl rfl rfl _ (y_move rfl rfl) ?_
      refine S_callOwn 36 36 rfl rfl rfl rfl rfl rfl rfl cf77 (fun A c => .tuple #[.slice A (plOf f.ad (decide ((i : Int) = 0)) ms.l ts.l).1.length c, str (plOf f.ad (decide ((i : Int) = 0)) ms.l ts.l).2]) 46 3 ((plOf f.ad (decide ((i : Int) = 0)) ms.l ts.l).1.length) ((plOf f.ad (decide ((i : Int) = 0)) ms.l ts.l).1.flatMap SPlace.enc) (fun w hM => placesOf_any f (decide ((i : Int) = 0)) ms ts w (hms.below hM.below) (hts.below hM.below) hm0 ht0) ?_
      intro A36 c36
      refine S_ 30 rfl rfl rfl _ (y_move rfl rfl) ?_
      refine S_ 37 rfl rfl rfl _ (y_extract rfl rfl rfl) ?_
      refine S_ 38 rfl rfl rfl _ (y_extract rfl rfl rfl) ?_
      refine S_ 12 rfl rfl rfl _ (y_assign rfl rfl) ?_
      refine S_ 13 rfl rfl rfl _ (y_assign rfl rfl) ?_
      refine S_go (fun _ _ h => h) ?_
      refine T_seq ?_
      refine T_seq ?_
      refine T_region ?_
      refine S_ 39 rfl rfl rfl _ (y_move rfl rfl) ?_
      refine S_ 40 rfl rfl rfl _ (y_len_slice rfl rfl Tryd.underlying42) ?_
      refine S_ 41 rfl rfl rfl _ (y_bin rfl rfl rfl (fun _ => b_eql)) ?_
      refine S_go (fun _ _ h => h) ?_
      refine T_cond rfl (fun h41 => ?_) (fun h41 => ?_)
      · try simp only [decide_eq_true_eq, decide_eq_false_iff_not, Bool.or_eq_true, Bool.or_eq_false_iff, Bool.and_eq_true, Bool.and_eq_false_iff, Bool.not_eq_true', Bool.not_eq_false', Bool.not_eq_true, Bool.not_eq_false, Bool.not_true, Bool.not_false, Int.not_lt, Int.not_le, not_or, not_and, Classical.not_not] at h41
        refine T_region ?_
        refine S_ 42 rfl rfl rfl _ (y_move rfl rfl) ?_
        refine S_ 43 rfl rfl rfl _ (y_loadA 11 rfl rfl rfl Tryd.underlying67 rfl sz67) ?_
        refine S_buildSlice 44 44 rfl rfl rfl rfl rfl Tryd.underlying57 inf67 rfl (by decide) (by decide) rfl rfl (by decide) rfl (_) rfl ?_
        intro b44
        obtain ⟨i45, hi45, hz45, hs45, hy45⟩ := info_parts inf67
        refine S_append 45 9 44 rfl rfl rfl rfl rfl rfl rfl rfl Tryd.underlying57 hi45 hz45 hs45 hy45 rfl (by decide) (by decide) rfl ?_ ?_ (q + 1) ((out ++ [f]).flatMap Frm.enc) ?_ ?_ ?_
        · (simp only [maxLen]; omega)
        · omega
        · rfl
        · simp [List.flatMap_append, Frm.enc]; rfl
        intro A45 c45
        refine S_ 9 rfl rfl rfl _ (y_assign rfl rfl) ?_
        refine S_go (fun _ _ h => h) ?_
        refine T_seq ?_
        refine T_region ?_
        refine S_ 46 rfl rfl rfl _ (y_move rfl rfl) ?_
        refine S_ 47 rfl rfl rfl _ (y_len_slice rfl rfl Tryd.underlying42) ?_
        refine S_ 48 rfl rfl rfl _ (y_move rfl rfl) ?_
        refine S_go (fun _ _ h => h) ?_
        refine T_block ?_
        refine T_loopK5 (kf := [(9, 9), (15, 15), (48, 67)]) (kl := [(9, 9), (15, 15), (48, 67)]) (fun (j : Nat) (o2 : List Frm) (q2 : Nat) (A2 : Option Addr) (c2 : Nat) => [(48, true, .int .i64 (j : Int)), (9, true, .slice A2 q2 c2)]) (fun (j : Nat) (o2 : List Frm) (q2 : Nat) (A2 : Option Addr) (c2 : Nat) => [(9, .own 67 6 (.slice A2 q2 c2) q2 (o2.flatMap Frm.enc))]) (fun (j : Nat) (o2 : List Frm) (q2 : Nat) (A2 : Option Addr) (c2 : Nat) => j ≤ (plOf f.ad (decide ((i : Int) = 0)) ms.l ts.l).1.length ∧ q2 ≤ i * 1002 + 1 + j ∧ o2.length = q2 ∧ o2 ++ ((plOf f.ad (decide ((i : Int) = 0)) ms.l ts.l).1.drop j).map (mkFrm f (plOf f.ad (decide ((i : Int) = 0)) ms.l ts.l).2) = out ++ resOf (decide ((i : Int) = 0)) f ms.l ts.l) (fun (j : Nat) (o2 : List Frm) (q2 : Nat) (A2 : Option Addr) (c2 : Nat) => (plOf f.ad (decide ((i : Int) = 0)) ms.l ts.l).1.length - j) 0 (out ++ [f]) (q + 1) A45 c45 (by repeat (first | exact kf_nil | (apply kf_in; focus rfl) | (apply kf_out; focus rfl))) (by repeat (first | exact kl_nil | exact kl_rest (by assumption) rfl | (apply kl_in; focus rfl) | (apply kl_out; focus rfl))) ?_ ?_ ?_ ?_
        · exact ⟨by omega, by omega, by simp [hp3], by rw [resOf, if_pos (by omega), List.drop_zero, List.eq_nil_of_length_eq_zero (by omega : (plOf f.ad (decide ((i : Int) = 0)) ms.l ts.l).1.length = 0)]; simp⟩
        · exact ⟨rfl, rfl, trivial⟩
        · exact ⟨rfl, trivial⟩
        rintro j o2 q2 A2 c2 ⟨hr1, hr2, hr3, hr4⟩
        refine T_seq ?_
        refine T_region ?_
        refine S_ 49 rfl rfl rfl _ (y_bin rfl rfl rfl (fun _ => b_lss)) ?_
        refine S_go (fun _ _ h => h) ?_
        refine T_seq ?_
        refine T_cond rfl (fun h49 => ?_) (fun h49 => ?_)
        · try simp only [decide_eq_true_eq, decide_eq_false_iff_not, Bool.or_eq_true, Bool.or_eq_false_iff, Bool.and_eq_true, Bool.and_eq_false_iff, Bool.not_eq_true', Bool.not_eq_false', Bool.not_eq_true, Bool.not_eq_false, Bool.not_true, Bool.not_false, Int.not_lt, Int.not_le, not_or, not_and, Classical.not_not] at h49
          obtain ⟨s, hs1, hs2⟩ := at_lt (l := (plOf f.ad (decide ((i : Int) = 0)) ms.l ts.l).1) (i := j) (by omega)
          refine T_skip_go (fun _ _ h => h) ?_
          refine T_seq ?_
          refine T_block ?_
          refine T_seq ?_
          refine T_region ?_
          refine S_ 50 rfl rfl rfl _ (y_indexOwn 36 rfl rfl rfl rfl Tryd.underlying42 sz46 (fun _ => by omega)) ?_
          refine S_ 51 rfl rfl rfl _ (y_loadO 36 rfl rfl rfl rfl (fun _ => rfl) (fun _ => hs1) Tryd.underlying46 rfl sz46) ?_
          refine S_alloc 15 15 rfl rfl rfl rfl z46 ?_
          intro b15
          refine S_store 15 rfl rfl rfl rfl rfl rfl sz46 rfl rfl ?_
          refine S_go (fun _ _ h => h) ?_
          refine T_region ?_
          refine S_ 52 rfl rfl rfl _ (y_move rfl rfl) ?_
          refine S_ 53 rfl rfl rfl _ (y_move rfl rfl) ?_
          refine S_ 54 rfl rfl rfl _ (y_fieldAddr rfl rfl fa46_0) ?_
          refine S_ 55 rfl rfl rfl _ (y_load 15 rfl rfl rfl rfl Tryd.underlying9 rfl) ?_
          refine S_ 56 rfl rfl rfl _ (y_fieldAddr rfl rfl fa46_1) ?_
          refine S_ 57 rfl rfl rfl _ (y_load 15 rfl rfl rfl rfl Tryd.underlying9 rfl) ?_
          refine S_ 58 rfl rfl rfl _ (y_fieldAddr rfl rfl fa46_2) ?_
          refine S_ 59 rfl rfl rfl _ (y_load 15 rfl rfl rfl rfl Tryd.underlying3 rfl) ?_
          refine S_ 60 rfl rfl rfl _ (y_fieldAddr rfl rfl fa67_4) ?_
          refine S_ 61 rfl rfl rfl _ (y_load 11 rfl rfl rfl rfl Tryd.underlying3 rfl) ?_
          refine S_ 62 rfl rfl rfl _ (y_fieldAddr rfl rfl fa67_5) ?_
          refine S_ 63 rfl rfl rfl _ (y_load 11 rfl rfl rfl rfl Tryd.underlying4 rfl) ?_
          refine S_ 64 rfl rfl rfl _ (y_build (zv := .agg #[.string ⟨#[]⟩, .string ⟨#[]⟩, .string ⟨#[]⟩, .int .i64 0, .int .i64 0, .bool false]) (pl := [(0, 1), (1, 1), (2, 1), (3, 1), (4, 1), (5, 1)]) (out := [_, _, _, _, _, _]) rfl rfl Tryd.underlying67 z67 (by kernel_rfl) rfl) ?_
          refine S_buildSlice 65 65 rfl rfl rfl rfl rfl Tryd.underlying57 inf67 rfl (by decide) (by decide) rfl rfl (by decide) rfl (_) rfl ?_
          intro b65
          obtain ⟨i66, hi66, hz66, hs66, hy66⟩ := info_parts inf67
          refine S_append 66 9 65 rfl rfl rfl rfl rfl rfl rfl rfl Tryd.underlying57 hi66 hz66 hs66 hy66 rfl (by decide) (by decide) rfl ?_ ?_ (q2 + 1) ((o2 ++ [mkFrm f (plOf f.ad (decide ((i : Int) = 0)) ms.l ts.l).2 s]).flatMap Frm.enc) ?_ ?_ ?_
          · (simp only [maxLen]; omega)
          · omega
          · rfl
          · simp [List.flatMap_append, Frm.enc, mkFrm]; rfl
          intro A66 c66
          refine S_ 9 rfl rfl rfl _ (y_assign rfl rfl) ?_
          refine S_go (fun _ _ h => h) ?_
          refine T_region ?_
          refine S_ 67 rfl rfl rfl _ (y_bin rfl rfl rfl (fun hg => b_add (by omega))) ?_
          refine S_ 48 rfl rfl rfl _ (y_move rfl rfl) ?_
          refine S_nil (nextK5 (kf := [(9, 9), (15, 15), (48, 67)]) (kl := [(9, 9), (15, 15), (48, 67)]) (j + 1) (o2 ++ [mkFrm f (plOf f.ad (decide ((i : Int) = 0)) ms.l ts.l).2 s]) (q2 + 1) A66 c66 (by repeat (first | exact kf_nil | (apply kf_in; focus rfl) | (apply kf_out; focus rfl))) (by repeat (first | exact kl_nil | exact kl_rest (by assumption) rfl | (apply kl_in; focus rfl) | (apply kl_out; focus rfl))) ?_ ?_ ?_ ?_)
          · omega
          · exact ⟨by omega, by omega, by simp [hr3], by rw [← hr4, hs2, List.map_cons, List.append_assoc]; rfl⟩
          · exact ⟨rfl, rfl, trivial⟩
          · exact ⟨rfl, trivial⟩
        · try simp only [decide_eq_true_eq, decide_eq_false_iff_not, Bool.or_eq_true, Bool.or_eq_false_iff, Bool.and_eq_true, Bool.and_eq_false_iff, Bool.not_eq_true', Bool.not_eq_false', Bool.not_eq_true, Bool.not_eq_false, Bool.not_true, Bool.not_false, Int.not_lt, Int.not_le, not_or, not_and, Classical.not_not] at h49
          refine T_exit_go (fun _ _ h => h) ?_
          refine T_region ?_
          refine S_ 68 rfl rfl rfl _ (y_bin rfl rfl rfl (fun hg => b_add (by omega))) ?_
          refine S_ 25 rfl rfl rfl _ (y_move rfl rfl) ?_
          refine S_nil (nextK5 (kf := [(9, 13), (15, 15), (25, 68)]) (kl := [(9, 13), (15, 15), (25, 68)]) (i + 1) o2 q2 A2 c2 (by repeat (first | exact kf_nil | (apply kf_in; focus rfl) | (apply kf_out; focus rfl))) (by repeat (first | exact kl_nil | exact kl_rest (by assumption) rfl | (apply kl_in; focus rfl) | (apply kl_out; focus rfl))) ?_ ?_ ?_ ?_)
          · omega
          · exact ⟨by omega, by omega, hr3, by rw [hp4, hx2, resAll, ← List.append_assoc, ← hr4, List.drop_eq_nil_of_le (by omega), List.map_nil, List.append_nil, show decide (((i + 1 : Nat) : Int) = 0) = false from decide_eq_false (by omega)]⟩
          · exact ⟨rfl, rfl, trivial⟩
          · exact ⟨rfl, trivial⟩
      · try simp only [decide_eq_true_eq, decide_eq_false_iff_not, Bool.or_eq_true, Bool.or_eq_false_iff, Bool.and_eq_true, Bool.and_eq_false_iff, Bool.not_eq_true', Bool.not_eq_false', Bool.not_eq_true, Bool.not_eq_false, Bool.not_true, Bool.not_false, Int.not_lt, Int.not_le, not_or, not_and, Classical.not_not] at h41
        refine T_skip_go (fun _ _ h => h) ?_
        refine T_seq ?_
        refine T_region ?_
        refine S_ 46 rfl rfl rfl _ (y_move rfl rfl) ?_
        refine S_ 47 rfl rfl rfl _ (y_len_slice rfl rfl Tryd.underlying42) ?_
        refine S_ 48 rfl rfl rfl _ (y_move rfl rfl) ?_
        refine S_go (fun _ _ h => h) ?_
        refine T_block ?_
        refine T_loopK5 (kf := [(9, 9), (15, 15), (48, 67)]) (kl := [(9, 9), (15, 15), (48, 67)]) (fun (j : Nat) (o2 : List Frm) (q2 : Nat) (A2 : Option Addr) (c2 : Nat) => [(48, true, .int .i64 (j : Int)), (9, true, .slice A2 q2 c2)]) (fun (j : Nat) (o2 : List Frm) (q2 : Nat) (A2 : Option Addr) (c2 : Nat) => [(9, .own 67 6 (.slice A2 q2 c2) q2 (o2.flatMap Frm.enc))]) (fun (j : Nat) (o2 : List Frm) (q2 : Nat) (A2 : Option Addr) (c2 : Nat) => j ≤ (plOf f.ad (decide ((i : Int) = 0)) ms.l ts.l).1.length ∧ q2 ≤ i * 1002 + 1 + j ∧ o2.length = q2 ∧ o2 ++ ((plOf f.ad (decide ((i : Int) = 0)) ms.l ts.l).1.drop j).map (mkFrm f (plOf f.ad (decide ((i : Int) = 0)) ms.l ts.l).2) = out ++ resOf (decide ((i : Int) = 0)) f ms.l ts.l) (fun (j : Nat) (o2 : List Frm) (q2 : Nat) (A2 : Option Addr) (c2 : Nat) => (plOf f.ad (decide ((i : Int) = 0)) ms.l ts.l).1.length - j) 0 out q A c (by repeat (first | exact kf_nil | (apply kf_in; focus rfl) | (apply kf_out; focus rfl))) (by repeat (first | exact kl_nil | exact kl_rest (by assumption) rfl | (apply kl_in; focus rfl) | (apply kl_out; focus rfl))) ?_ ?_ ?_ ?_
        · exact ⟨by omega, by omega, hp3, by rw [resOf, if_neg (by omega), List.drop_zero]⟩
        · exact ⟨rfl, rfl, trivial⟩
        · exact ⟨rfl, trivial⟩
        rintro j o2 q2 A2 c2 ⟨hr1, hr2, hr3, hr4⟩
        refine T_seq ?_
        refine T_region ?_
        refine S_ 49 rfl rfl rfl _ (y_bin rfl rfl rfl (fun _ => b_lss)) ?_
        refine S_go (fun _ _ h => h) ?_
        refine T_seq ?_
        refine T_cond rfl (fun h49 => ?_) (fun h49 => ?_)
        · try simp only [decide_eq_true_eq, decide_eq_false_iff_not, Bool.or_eq_true, Bool.or_eq_false_iff, Bool.and_eq_true, Bool.and_eq_false_iff, Bool.not_eq_true', Bool.not_eq_false', Bool.not_eq_true, Bool.not_eq_false, Bool.not_true, Bool.not_false, Int.not_lt, Int.not_le, not_or, not_and, Classical.not_not] at h49
          obtain ⟨s, hs1, hs2⟩ := at_lt (l := (plOf f.ad (decide ((i : Int) = 0)) ms.l ts.l).1) (i := j) (by omega)
          refine T_skip_go (fun _ _ h => h) ?_
          refine T_seq ?_
          refine T_block ?_
          refine T_seq ?_
          refine T_region ?_
          refine S_ 50 rfl rfl rfl _ (y_indexOwn 36 rfl rfl rfl rfl Tryd.underlying42 sz46 (fun _ => by omega)) ?_
          refine S_ 51 rfl rfl rfl _ (y_loadO 36 rfl rfl rfl rfl (fun _ => rfl) (fun _ => hs1) Tryd.underlying46 rfl sz46) ?_
          refine S_alloc 15 15 rfl rfl rfl rfl z46 ?_
          intro b15
          refine S_store 15 rfl rfl rfl rfl rfl rfl sz46 rfl rfl ?_
          refine S_go (fun _ _ h => h) ?_
          refine T_region ?_
          refine S_ 52 rfl rfl rfl _ (y_move rfl rfl) ?_
          refine S_ 53 rfl rfl rfl _ (y_move rfl rfl) ?_
          refine S_ 54 rfl rfl rfl _ (y_fieldAddr rfl rfl fa46_0) ?_
          refine S_ 55 rfl rfl rfl _ (y_load 15 rfl rfl rfl rfl Tryd.underlying9 rfl) ?_
          refine S_ 56 rfl rfl rfl _ (y_fieldAddr rfl rfl fa46_1) ?_
          refine S_ 57 rfl rfl rfl _ (y_load 15 rfl rfl rfl rfl Tryd.underlying9 rfl) ?_
          refine S_ 58 rfl rfl rfl _ (y_fieldAddr rfl rfl fa46_2) ?_
          refine S_ 59 rfl rfl rfl _ (y_load 15 rfl rfl rfl rfl Tryd.underlying3 rfl) ?_
          refine S_ 60 rfl rfl rfl _ (y_fieldAddr rfl rfl fa67_4) ?_
          refine S_ 61 rfl rfl rfl _ (y_load 11 rfl rfl rfl rfl Tryd.underlying3 rfl) ?_
          refine S_ 62 rfl rfl rfl _ (y_fieldAddr rfl rfl fa67_5) ?_
          refine S_ 63 rfl rfl rfl _ (y_load 11 rfl rfl rfl rfl Tryd.underlying4 rfl) ?_
          refine S_ 64 rfl rfl rfl _ (y_build (zv := .agg #[.string ⟨#[]⟩, .string ⟨#[]⟩, .string ⟨#[]⟩, .int .i64 0, .int .i64 0, .bool false]) (pl := [(0, 1), (1, 1), (2, 1), (3, 1), (4, 1), (5, 1)]) (out := [_, _, _, _, _, _]) rfl rfl Tryd.underlying67 z67 (by kernel_rfl) rfl) ?_
          refine S_buildSlice 65 65 rfl rfl rfl rfl rfl Tryd.underlying57 inf67 rfl (by decide) (by decide) rfl rfl (by decide) rfl (_) rfl ?_
          intro b65
          obtain ⟨i66, hi66, hz66, hs66, hy66⟩ := info_parts inf67
          refine S_append 66 9 65 rfl rfl rfl rfl rfl rfl rfl rfl Tryd.underlying57 hi66 hz66 hs66 hy66 rfl (by decide) (by decide) rfl ?_ ?_ (q2 + 1) ((o2 ++ [mkFrm f (plOf f.ad (decide ((i : Int) = 0)) ms.l ts.l).2 s]).flatMap Frm.enc) ?_ ?_ ?_
          · (simp only [maxLen]; omega)
          · omega
          · rfl
          · simp [List.flatMap_append, Frm.enc, mkFrm]; rfl
          intro A66 c66
          refine S_ 9 rfl rfl rfl _ (y_assign rfl rfl) ?_
          refine S_go (fun _ _ h => h) ?_
          refine T_region ?_
          refine S_ 67 rfl rfl rfl _ (y_bin rfl rfl rfl (fun hg => b_add (by omega))) ?_
          refine S_ 48 rfl rfl rfl _ (y_move rfl rfl) ?_
          refine S_nil (nextK5 (kf := [(9, 9), (15, 15), (48, 67)]) (kl := [(9, 9), (15, 15), (48, 67)]) (j + 1) (o2 ++ [mkFrm f (plOf f.ad (decide ((i : Int) = 0)) ms.l ts.l).2 s]) (q2 + 1) A66 c66 (by repeat (first | exact kf_nil | (apply kf_in; focus rfl) | (apply kf_out; focus rfl))) (by repeat (first | exact kl_nil | exact kl_rest (by assumption) rfl | (apply kl_in; focus rfl) | (apply kl_out; focus rfl))) ?_ ?_ ?_ ?_)
          · omega
          · exact ⟨by omega, by omega, by simp [hr3], by rw [← hr4, hs2, List.map_cons, List.append_assoc]; rfl⟩
          · exact ⟨rfl, rfl, trivial⟩
          · exact ⟨rfl, trivial⟩
        · try simp only [decide_eq_true_eq, decide_eq_false_iff_not, Bool.or_eq_true, Bool.or_eq_false_iff, Bool.and_eq_true, Bool.and_eq_false_iff, Bool.not_eq_true', Bool.not_eq_false', Bool.not_eq_true, Bool.not_eq_false, Bool.not_true, Bool.not_false, Int.not_lt, Int.not_le, not_or, not_and, Classical.not_not] at h49
          refine T_exit_go (fun _ _ h => h) ?_
          refine T_region ?_
          refine S_ 68 rfl rfl rfl _ (y_bin rfl rfl rfl (fun hg => b_add (by omega))) ?_
          refine S_ 25 rfl rfl rfl _ (y_move rfl rfl) ?_
          refine S_nil (nextK5 (kf := [(9, 13), (15, 15), (25, 68)]) (kl := [(9, 13), (15, 15), (25, 68)]) (i + 1) o2 q2 A2 c2 (by repeat (first | exact kf_nil | (apply kf_in; focus rfl) | (apply kf_out; focus rfl))) (by repeat (first | exact kl_nil | exact kl_rest (by assumption) rfl | (apply kl_in; focus rfl) | (apply kl_out; focus rfl))) ?_ ?_ ?_ ?_)
          · omega
          · exact ⟨by omega, by omega, hr3, by rw [hp4, hx2, resAll, ← List.append_assoc, ← hr4, List.drop_eq_nil_of_le (by omega), List.map_nil, List.append_nil, show decide (((i + 1 : Nat) : Int) = 0) = false from decide_eq_false (by omega)]⟩
          · exact ⟨rfl, rfl, trivial⟩
          · exact ⟨rfl, trivial⟩
    · try simp only [decide_eq_true_eq, decide_eq_false_iff_not, Bool.or_eq_true, Bool.or_eq_false_iff, Bool.and_eq_true, Bool.and_eq_false_iff, Bool.not_eq_true', Bool.not_eq_false', Bool.not_eq_true, Bool.not_eq_false, Bool.not_true, Bool.not_false, Int.not_lt, Int.not_le, not_or, not_and, Classical.not_not] at h26
      refine T_exit_go (fun _ _ h => h) ?_
      refine T_seq ?_
      refine T_seq ?_
      refine T_region ?_
      refine S_ 69 rfl rfl rfl _ (y_move rfl rfl) ?_
      refine S_ 70 rfl rfl rfl _ (y_len_slice rfl rfl Tryd.underlying57) ?_
      refine S_ 71 rfl rfl rfl _ (y_bin rfl rfl rfl (fun _ => b_gtr)) ?_
      refine S_go (fun _ _ h => h) ?_
      refine T_cond rfl (fun h71 => ?_) (fun h71 => ?_)
      · try simp only [decide_eq_true_eq, decide_eq_false_iff_not, Bool.or_eq_true, Bool.or_eq_false_iff, Bool.and_eq_true, Bool.and_eq_false_iff, Bool.not_eq_true', Bool.not_eq_false', Bool.not_eq_true, Bool.not_eq_false, Bool.not_true, Bool.not_false, Int.not_lt, Int.not_le, not_or, not_and, Classical.not_not] at h71
        refine T_seq ?_
        refine T_region ?_
        refine S_nilSlice 6 (e := 67) (size := 6) ?_
        refine S_ 6 rfl rfl rfl _ (y_assign rfl rfl) ?_
        refine S_ 7 rfl rfl rfl _ (y_assign rfl rfl) ?_
        refine S_go (fun _ _ h => h) ?_
        refine T_ret (fun a w hF hM => hRb a w (post2 rfl rfl rfl (fun w hM => ?_) a w hF hM))
        have e2 : resAll ms.l ts.l true fs.l = out := by rw [hp4, hft.end (by omega)]; simp [resAll]
        have e1 : resNo fs ms ts = 4 := fst_b h21 (if_pos (by rw [e2]; omega))
        have e : resOut fs ms ts = [] := if_neg (by rw [e1]; decide)
        rw [e, e1]
        exact ⟨none, 0, rfl, hM.sat 6 _ rfl, hM.below⟩
      · try simp only [decide_eq_true_eq, decide_eq_false_iff_not, Bool.or_eq_true, Bool.or_eq_false_iff, Bool.and_eq_true, Bool.and_eq_false_iff, Bool.not_eq_true', Bool.not_eq_false', Bool.not_eq_true, Bool.not_eq_false, Bool.not_true, Bool.not_false, Int.not_lt, Int.not_le, not_or, not_and, Classical.not_not] at h71
        refine T_skip_go (fun _ _ h => h) ?_
        refine T_seq ?_
        refine T_region ?_
        refine S_ 72 rfl rfl rfl _ (y_move rfl rfl) ?_
        refine S_ 6 rfl rfl rfl _ (y_assign rfl rfl) ?_
        refine S_ 7 rfl rfl rfl _ (y_assign rfl rfl) ?_
        refine S_go (fun _ _ h => h) ?_
        refine T_ret (fun a w hF hM => hRb a w (post2 rfl rfl rfl (fun w hM => ?_) a w hF hM))
        have e2 : resAll ms.l ts.l true fs.l = out := by rw [hp4, hft.end (by omega)]; simp [resAll]
        have e1 : resNo fs ms ts = 0 := fst_b h21 (if_neg (by rw [e2]; omega))
        have e : resOut fs ms ts = out := by rw [resOut, if_pos e1, e2]
        rw [e, e1, hp3]
        exact ⟨A, c, rfl, hM.sat 9 _ rfl, hM.below⟩
end Go.Proofs.YtofolhnecfkjkaaDoor
