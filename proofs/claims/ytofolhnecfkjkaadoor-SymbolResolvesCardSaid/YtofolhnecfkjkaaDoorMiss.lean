/- Resolve and Missing. Conditions: those of each theorem. -/
import Derived.Test.YtofolhnecfkjkaaDoorResv
import Derived.Test.YtofolhnecfkjkaaDoorFlt
namespace Go.Proofs.YtofolhnecfkjkaaDoor
set_option linter.unusedSimpArgs false
set_option linter.unusedVariables false
set_option maxRecDepth 20000
open Go.RowKit Go.Eng
theorem allNo_zero {fs : Sl Frm} {ms : Sl SMod} {ts : Sl Tab} (h : allNo fs ms ts = 0) : fs.q ≤ 200 ∧ framesNo fs = 0 ∧ modsNo ms.l 0 = 0 ∧ ∀ t ∈ ts.l, tabNo t = 0 := by
  obtain ⟨h1, h⟩ := fst_zero h
  obtain ⟨h2, h3⟩ := fst_zero h
  have e2 := (le_of_ite h2).2
  have e3 := (le_of_ite h3).2
  have e1 := le_of_ite h1
  exact ⟨by have := e1.1; omega, h1, e2, tabs_right _ _ e3⟩
/-! ### Missing -/
theorem missing1_any (t : Tab) (a1 : Addr) (s : List UInt8) (w : World) (hb1 : a1.block < w.heap.size) (h1 : w.cell? a1 = some (str s)) :
    Calls Tryd.prog 78 #[.agg t.enc.toArray, .pointer (some a1)] w fun e w' => e = .returned (.bool (t.hasId s)) ∧ Below w.heap.size w w' := by
  refine enter_args (args := [.agg #[str t.id, .int .i64 t.size, .slice t.fi.A t.fi.q t.fi.c, .slice t.fu.A t.fu.q t.fu.c, .slice t.ro.A t.ro.q t.ro.c, .slice t.ca.A t.ca.q t.ca.c], .pointer (some a1)]) (F := _) Tryd.func78 rfl Tryd.ntmps78 rfl rfl ?_
  intro Rb hRb hRn
  refine T_seq ?_
  refine T_region ?_
  refine S_box 2 2 rfl rfl rfl rfl rfl ?_
  intro b2
  refine S_ 3 rfl rfl rfl _ (y_assign rfl rfl) ?_
  refine S_go (fun _ _ h => h) ?_
  refine T_seq ?_
  refine T_region ?_
  refine S_ 4 rfl rfl rfl _ (y_fieldAddr rfl rfl fa27_0) ?_
  refine S_ 5 rfl rfl rfl _ (y_load 2 rfl rfl rfl rfl Tryd.underlying9 rfl) ?_
  refine S_ 6 rfl rfl rfl _ (y_load_far rfl rfl h1 hb1 Tryd.underlying9 rfl) ?_
  refine S_ 7 rfl rfl rfl _ (y_bin rfl rfl rfl (fun _ => b_eqls)) ?_
  refine S_ 3 rfl rfl rfl _ (y_assign rfl rfl) ?_
  refine S_go (fun _ _ h => h) ?_
  refine T_ret (fun a w hF hM => hRb a w (post1 rfl rfl (fun w hM => ?_) a w hF hM))
  exact ⟨rfl, hM.below⟩
theorem asks_Missing {b1 : Nat} {s : List UInt8} {w : World} (h1 : w.cell? ⟨b1, 0, none⟩ = some (str s) ∧ b1 < w.heap.size) :
    Asks Tryd.prog Tab.enc w 78 #[.pointer (some ⟨b1, 0, none⟩)] (Tab.hasId s) :=
  ⟨cf78, fun t w' hb => missing1_any t ⟨b1, 0, none⟩ s w' (Nat.lt_of_lt_of_le h1.2 hb.size) ((hb.cell h1.2).trans h1.1)⟩
def idOf (ad : Int) (ms : List SMod) : List UInt8 := (ms.getD (findI (SMod.has ad) ms 0).toNat m00).id
def missOf (ms : List SMod) (ts : List Tab) : List Frm → List (List UInt8) → List (List UInt8)
  | [], out => out
  | f :: r, out => if f.ad = -1 ∨ findI (SMod.has f.ad) ms 0 < 0 then missOf ms ts r out
    else if (!decide (idOf f.ad ms ∈ out) && !ts.any (Tab.hasId (idOf f.ad ms))) = true then missOf ms ts r (out ++ [idOf f.ad ms]) else missOf ms ts r out
def missOut (fs : Sl Frm) (ms : Sl SMod) (ts : Sl Tab) : List (List UInt8) := if allNo fs ms ts = 0 then missOf ms.l ts.l fs.l [] else []
set_option maxHeartbeats 800000 in
theorem Missing_any (fs : Sl Frm) (ms : Sl SMod) (ts : Sl Tab) (w : World) (hfs : FrmsOk w fs) (hms : ModsOk w ms) (hts : TabsOk w ts) :
    Calls Tryd.prog 29 #[.slice fs.A fs.q fs.c, .slice ms.A ms.q ms.c, .slice ts.A ts.q ts.c] w fun e w' => ∃ A c, e = .returned (.tuple #[.slice A (missOut fs ms ts).length c, .int .i64 (allNo fs ms ts)]) ∧
      w'.ownsRow w.heap.size 9 1 (.slice A (missOut fs ms ts).length c) (missOut fs ms ts).length ((missOut fs ms ts).flatMap strEnc) ∧ Below w.heap.size w w' := by
  have hft := hfs.ok.t
  have hfq := hfs.q
  have hmt := hms.ok.t
  have hmq := hms.q
  have hml := hmt.len
  refine enter_args (args := [.slice fs.A fs.q fs.c, .slice ms.A ms.q ms.c, .slice ts.A ts.q ts.c]) (F := _) Tryd.func29 rfl Tryd.ntmps29 rfl rfl ?_
  intro Rb hRb hRn
  refine T_seq ?_
  refine T_region ?_
  refine S_nilSlice 6 (e := 9) (size := 1) ?_
  refine S_ 6 rfl rfl rfl _ (y_assign rfl rfl) ?_
  refine S_ 7 rfl rfl rfl _ (y_assign rfl rfl) ?_
  refine S_go (fun _ _ h => h) ?_
  refine T_seq ?_
  refine T_seq ?_
  refine T_region ?_
  refine S_ 15 rfl rfl rfl _ (y_move rfl rfl) ?_
  refine S_ 16 rfl rfl rfl _ (y_move rfl rfl) ?_
  refine S_ 17 rfl rfl rfl _ (y_move rfl rfl) ?_
  refine S_ 18 rfl rfl rfl _ (y_call rfl rfl rfl cf76 (fun _ w hM => checkAll_any fs ms ts w (hfs.below hM.below) (hms.below hM.below) (hts.below hM.below))) ?_
  refine S_ 8 rfl rfl rfl _ (y_assign rfl rfl) ?_
  refine S_go (fun _ _ h => h) ?_
  refine T_seq ?_
  refine T_region ?_
  refine S_ 19 rfl rfl rfl _ (y_move rfl rfl) ?_
  refine S_ 20 rfl rfl rfl _ (y_bin rfl rfl rfl (fun _ => b_neq)) ?_
  refine S_go (fun _ _ h => h) ?_
  refine T_cond rfl (fun h20 => ?_) (fun h20 => ?_)
  · try simp only [decide_eq_true_eq, decide_eq_false_iff_not, Bool.or_eq_true, Bool.or_eq_false_iff, Bool.and_eq_true, Bool.and_eq_false_iff, Bool.not_eq_true', Bool.not_eq_false', Bool.not_eq_true, Bool.not_eq_false, Bool.not_true, Bool.not_false, Int.not_lt, Int.not_le, not_or, not_and, Classical.not_not] at h20
    refine T_seq ?_
    refine T_region ?_
    refine S_ 21 rfl rfl rfl _ (y_move rfl rfl) ?_
    refine S_nilSlice 6 (e := 9) (size := 1) ?_
    refine S_ 6 rfl rfl rfl _ (y_assign rfl rfl) ?_
    refine S_ 7 rfl rfl rfl _ (y_assign rfl rfl) ?_
    refine S_go (fun _ _ h => h) ?_
    refine T_ret (fun a w hF hM => hRb a w (post2 rfl rfl rfl (fun w hM => ?_) a w hF hM))
    have e : missOut fs ms ts = [] := if_neg h20
    rw [e]
    exact ⟨none, 0, rfl, hM.sat 6 _ rfl, hM.below⟩
  · try simp only [decide_eq_true_eq, decide_eq_false_iff_not, Bool.or_eq_true, Bool.or_eq_false_iff, Bool.and_eq_true, Bool.and_eq_false_iff, Bool.not_eq_true', Bool.not_eq_false', Bool.not_eq_true, Bool.not_eq_false, Bool.not_true, Bool.not_false, Int.not_lt, Int.not_le, not_or, not_and, Classical.not_not] at h20
    obtain ⟨hq2, _, hm0, ht0⟩ := allNo_zero h20
    refine T_skip_go (fun _ _ h => h) ?_
    refine T_seq ?_
    refine T_region ?_
    refine S_nilSlice 9 (e := 9) (size := 1) ?_
    refine S_ 9 rfl rfl rfl _ (y_assign rfl rfl) ?_
    refine S_go (fun _ _ h => h) ?_
    refine T_seq ?_
    refine T_seq ?_
    refine T_region ?_
    refine S_ 22 rfl rfl rfl _ (y_move rfl rfl) ?_
    refine S_ 23 rfl rfl rfl _ (y_len_slice rfl rfl Tryd.underlying57) ?_
    refine S_ 24 rfl rfl rfl _ (y_move rfl rfl) ?_
    refine S_go (fun _ _ h => h) ?_
    refine T_block ?_
    refine T_loopK5 (kf := [(9, 9), (11, 14), (24, 61)]) (kl := [(9, 9), (11, 14), (24, 61)]) (fun (i : Nat) (out : List (List UInt8)) (q : Nat) (A : Option Addr) (c : Nat) => [(24, true, .int .i64 (i : Int)), (9, true, .slice A q c)]) (fun (i : Nat) (out : List (List UInt8)) (q : Nat) (A : Option Addr) (c : Nat) => [(9, .own 9 1 (.slice A q c) q (out.flatMap strEnc))]) (fun (i : Nat) (out : List (List UInt8)) (q : Nat) (A : Option Addr) (c : Nat) => i ≤ fs.q ∧ q ≤ i ∧ out.length = q ∧ missOf ms.l ts.l fs.l [] = missOf ms.l ts.l (fs.l.drop i) out) (fun (i : Nat) (out : List (List UInt8)) (q : Nat) (A : Option Addr) (c : Nat) => fs.q - i) 0 [] 0 none 0 (by repeat (first | exact kf_nil | (apply kf_in; focus rfl) | (apply kf_out; focus rfl))) (by repeat (first | exact kl_nil | exact kl_rest (by assumption) rfl | (apply kl_in; focus rfl) | (apply kl_out; focus rfl))) ?_ ?_ ?_ ?_
    · exact ⟨by omega, by omega, rfl, rfl⟩
    · exact ⟨rfl, rfl, trivial⟩
    · exact ⟨rfl, trivial⟩
    rintro i out q A c ⟨hp1, hp2, hp3, hp4⟩
    refine T_seq ?_
    refine T_region ?_
    refine S_ 25 rfl rfl rfl _ (y_bin rfl rfl rfl (fun _ => b_lss)) ?_
    refine S_go (fun _ _ h => h) ?_
    refine T_seq ?_
    refine T_cond rfl (fun h25 => ?_) (fun h25 => ?_)
    · try simp only [decide_eq_true_eq, decide_eq_false_iff_not, Bool.or_eq_true, Bool.or_eq_false_iff, Bool.and_eq_true, Bool.and_eq_false_iff, Bool.not_eq_true', Bool.not_eq_false', Bool.not_eq_true, Bool.not_eq_false, Bool.not_true, Bool.not_false, Int.not_lt, Int.not_le, not_or, not_and, Classical.not_not] at h25
      obtain ⟨f, hx1, hx2⟩ := hft.at (i := i) (by omega)
      refine T_skip_go (fun _ _ h => h) ?_
      refine T_seq ?_
      refine T_block ?_
      refine T_seq ?_
      refine T_region ?_
      refine S_ 26 rfl rfl rfl _ (y_indexAddr rfl rfl rfl Tryd.underlying57 sz67 (fun hg => hft.isSome (by omega)) (fun _ => by omega)) ?_
      refine S_ 27 rfl rfl rfl _ (y_loadT rfl rfl hft (fun _ => rfl) (fun _ => hx1) Tryd.underlying67 rfl sz67) ?_
      refine S_alloc 11 11 rfl rfl rfl rfl z67 ?_
      intro b11
      refine S_store 11 rfl rfl rfl rfl rfl rfl sz67 rfl rfl ?_
      refine S_go (fun _ _ h => h) ?_
      refine T_seq ?_
      refine T_region ?_
      refine S_ 29 rfl rfl rfl _ (y_move rfl rfl) ?_
      refine S_ 30 rfl rfl rfl _ (y_fieldAddr rfl rfl fa67_4) ?_
      refine S_ 31 rfl rfl rfl _ (y_load 11 rfl rfl rfl rfl Tryd.underlying3 rfl) ?_
      refine S_ 32 rfl rfl rfl _ (y_call rfl rfl rfl cf10 (fun _ w hM => ModuleAt_any ms _ w (hms.ok.below hM.below) hms.q)) ?_
      refine S_ 28 rfl rfl rfl _ (y_move rfl rfl) ?_
      refine S_ 33 rfl rfl rfl _ (y_extract rfl rfl rfl) ?_
      refine S_ 34 rfl rfl rfl _ (y_extract rfl rfl rfl) ?_
      refine S_ 12 rfl rfl rfl _ (y_assign rfl rfl) ?_
      refine S_ 13 rfl rfl rfl _ (y_assign rfl rfl) ?_
      refine S_go (fun _ _ h => h) ?_
      refine T_seq ?_
      refine T_seq ?_
      refine T_region ?_
      refine S_ 35 rfl rfl rfl _ (y_fieldAddr rfl rfl fa67_4) ?_
      refine S_ 36 rfl rfl rfl _ (y_load 11 rfl rfl rfl rfl Tryd.underlying3 rfl) ?_
      refine S_ 37 rfl rfl rfl _ (y_bin rfl rfl rfl (fun _ => b_eql)) ?_
      refine S_ 38 rfl rfl rfl _ (y_move rfl rfl) ?_
      refine Sg_ 39 rfl rfl rfl rfl rfl rfl _ (y_move rfl rfl) ?_
      refine Sg_ 40 rfl rfl rfl rfl rfl rfl _ (y_not rfl rfl) ?_
      refine S_ 41 rfl rfl rfl _ (y_or rfl rfl rfl) ?_
      refine S_go (fun _ _ h => h) ?_
      refine T_cond rfl (fun h41 => ?_) (fun h41 => ?_)
      · try simp only [decide_eq_true_eq, decide_eq_false_iff_not, Bool.or_eq_true, Bool.or_eq_false_iff, Bool.and_eq_true, Bool.and_eq_false_iff, Bool.not_eq_true', Bool.not_eq_false', Bool.not_eq_true, Bool.not_eq_false, Bool.not_true, Bool.not_false, Int.not_lt, Int.not_le, not_or, not_and, Classical.not_not] at h41
        refine T_exit_go (fun _ _ h => h) ?_
        refine T_region ?_
        refine S_ 61 rfl rfl rfl _ (y_bin rfl rfl rfl (fun hg => b_add (by omega))) ?_
        refine S_ 24 rfl rfl rfl _ (y_move rfl rfl) ?_
        refine S_nil (nextK5 (kf := [(9, 9), (11, 14), (24, 61)]) (kl := [(9, 9), (11, 14), (24, 61)]) (i + 1) out q A c (by repeat (first | exact kf_nil | (apply kf_in; focus rfl) | (apply kf_out; focus rfl))) (by repeat (first | exact kl_nil | exact kl_rest (by assumption) rfl | (apply kl_in; focus rfl) | (apply kl_out; focus rfl))) ?_ ?_ ?_ ?_)
        · omega
        · exact ⟨by omega, by omega, hp3, by rw [hp4, hx2, missOf, if_pos (by omega)]⟩
        · exact ⟨rfl, rfl, trivial⟩
        · exact ⟨rfl, trivial⟩
      · try simp only [decide_eq_true_eq, decide_eq_false_iff_not, Bool.or_eq_true, Bool.or_eq_false_iff, Bool.and_eq_true, Bool.and_eq_false_iff, Bool.not_eq_true', Bool.not_eq_false', Bool.not_eq_true, Bool.not_eq_false, Bool.not_true, Bool.not_false, Int.not_lt, Int.not_le, not_or, not_and, Classical.not_not] at h41
        obtain ⟨n, m, hn, hm, hp⟩ := findI_at ms.l 0 (by omega) h41.2
        have hif : (if findI (SMod.has f.ad) ms.l 0 < 0 then 0 else findI (SMod.has f.ad) ms.l 0) = (n : Int) := by rw [if_neg (by omega)]; omega
        have e1 : idOf f.ad ms.l = m.id := by rw [idOf, hn, show (0 + (n : Int)).toNat = n by omega, List.getD, hm]; rfl
        have hnl := (List.getElem?_eq_some_iff.1 hm).1
        refine T_skip_go (fun _ _ h => h) ?_
        refine T_seq ?_
        refine T_region ?_
        refine S_ 42 rfl rfl rfl _ (y_move rfl rfl) ?_
        refine S_ 43 rfl rfl rfl _ (y_move rfl rfl) ?_
        refine S_ 44 rfl rfl rfl _ (y_indexAddrI (j := n) rfl rfl rfl (fun _ => by omega) Tryd.underlying28 sz86 (fun hg => hmt.isSome (by omega)) (fun _ => by omega)) ?_
        refine S_ 45 rfl rfl rfl _ (y_fieldEl rfl rfl hmt.rd (fun _ => by omega) fa86_1) ?_
        refine S_ 46 rfl rfl rfl _ (y_load_fT rfl rfl hmt (fun _ => rfl) (fun _ => hm) rfl Tryd.underlying9 rfl) ?_
        refine S_alloc 14 14 rfl rfl rfl rfl z9 ?_
        intro b14
        refine S_store 14 rfl rfl rfl rfl rfl rfl sz9 rfl rfl ?_
        refine S_go (fun _ _ h => h) ?_
        refine T_seq ?_
        refine T_region ?_
        refine S_ 47 rfl rfl rfl _ (y_move rfl rfl) ?_
        refine S_ 48 rfl rfl rfl _ (y_load 14 rfl rfl rfl rfl Tryd.underlying9 rfl) ?_
        refine S_ 49 rfl rfl rfl _ (y_call rfl rfl rfl cf37 (fun hg w hM => ContainsS_any _ _ _ _ _ w (own_ok2 hM hp3 (i := 9) rfl).t (by omega))) ?_
        refine S_ 50 rfl rfl rfl _ (y_not rfl rfl) ?_
        refine S_ 51 rfl rfl rfl _ (y_move rfl rfl) ?_
        refine Sg_ 52 rfl rfl rfl rfl rfl rfl _ (y_move rfl rfl) ?_
        refine Sg_ 53 rfl rfl rfl rfl rfl rfl _ (y_makeFunc rfl rfl rfl rfl rfl) ?_
        refine Sg_ 54 rfl rfl rfl rfl rfl rfl _ (y_call rfl rfl rfl cf35 (fun hg w hM => ContainsFuncT_any _ _ _ _ _ _ (Tab.hasId m.id) w (hts.ok.t.below hM.below) hts.q (asks_Missing (hM.box_cell (i := 14) rfl rfl)))) ?_
        refine Sg_ 55 rfl rfl rfl rfl rfl rfl _ (y_not rfl rfl) ?_
        refine S_ 56 rfl rfl rfl _ (y_and rfl rfl rfl) ?_
        refine S_go (fun _ _ h => h) ?_
        refine T_cond rfl (fun h56 => ?_) (fun h56 => ?_)
        · skip
          refine T_region ?_
          refine S_ 57 rfl rfl rfl _ (y_move rfl rfl) ?_
          refine S_ 58 rfl rfl rfl _ (y_load 14 rfl rfl rfl rfl Tryd.underlying9 rfl) ?_
          refine S_buildSlice 59 59 rfl rfl rfl rfl rfl Tryd.underlying22 inf9 rfl (by decide) (by decide) rfl rfl (by decide) rfl (_) rfl ?_
          intro b59
          obtain ⟨i60, hi60, hz60, hs60, hy60⟩ := info_parts inf9
          refine S_append 60 9 59 rfl rfl rfl rfl rfl rfl rfl rfl Tryd.underlying22 hi60 hz60 hs60 hy60 rfl (by decide) (by decide) rfl ?_ ?_ (q + 1) ((out ++ [m.id]).flatMap strEnc) ?_ ?_ ?_
          · (simp only [maxLen]; omega)
          · omega
          · rfl
          · simp [List.flatMap_append, strEnc]; rfl
          intro A60 c60
          refine S_ 9 rfl rfl rfl _ (y_assign rfl rfl) ?_
          refine S_go (fun _ _ h => h) ?_
          refine T_region ?_
          refine S_ 61 rfl rfl rfl _ (y_bin rfl rfl rfl (fun hg => b_add (by omega))) ?_
          refine S_ 24 rfl rfl rfl _ (y_move rfl rfl) ?_
          refine S_nil (nextK5 (kf := [(9, 9), (11, 14), (24, 61)]) (kl := [(9, 9), (11, 14), (24, 61)]) (i + 1) (out ++ [m.id]) (q + 1) A60 c60 (by repeat (first | exact kf_nil | (apply kf_in; focus rfl) | (apply kf_out; focus rfl))) (by repeat (first | exact kl_nil | exact kl_rest (by assumption) rfl | (apply kl_in; focus rfl) | (apply kl_out; focus rfl))) ?_ ?_ ?_ ?_)
          · omega
          · exact ⟨by omega, by omega, by simp [hp3], by rw [hp4, hx2, missOf, if_neg (by omega), e1, if_t h56]⟩
          · exact ⟨rfl, rfl, trivial⟩
          · exact ⟨rfl, trivial⟩
        · skip
          refine T_skip_go (fun _ _ h => h) ?_
          refine T_region ?_
          refine S_ 61 rfl rfl rfl _ (y_bin rfl rfl rfl (fun hg => b_add (by omega))) ?_
          refine S_ 24 rfl rfl rfl _ (y_move rfl rfl) ?_
          refine S_nil (nextK5 (kf := [(9, 9), (11, 14), (24, 61)]) (kl := [(9, 9), (11, 14), (24, 61)]) (i + 1) out q A c (by repeat (first | exact kf_nil | (apply kf_in; focus rfl) | (apply kf_out; focus rfl))) (by repeat (first | exact kl_nil | exact kl_rest (by assumption) rfl | (apply kl_in; focus rfl) | (apply kl_out; focus rfl))) ?_ ?_ ?_ ?_)
          · omega
          · exact ⟨by omega, by omega, hp3, by rw [hp4, hx2, missOf, if_neg (by omega), e1, if_f h56]⟩
          · exact ⟨rfl, rfl, trivial⟩
          · exact ⟨rfl, trivial⟩
    · try simp only [decide_eq_true_eq, decide_eq_false_iff_not, Bool.or_eq_true, Bool.or_eq_false_iff, Bool.and_eq_true, Bool.and_eq_false_iff, Bool.not_eq_true', Bool.not_eq_false', Bool.not_eq_true, Bool.not_eq_false, Bool.not_true, Bool.not_false, Int.not_lt, Int.not_le, not_or, not_and, Classical.not_not] at h25
      refine T_exit_go (fun _ _ h => h) ?_
      refine T_seq ?_
      refine T_region ?_
      refine S_ 62 rfl rfl rfl _ (y_move rfl rfl) ?_
      refine S_ 6 rfl rfl rfl _ (y_assign rfl rfl) ?_
      refine S_ 7 rfl rfl rfl _ (y_assign rfl rfl) ?_
      refine S_go (fun _ _ h => h) ?_
      refine T_ret (fun a w hF hM => hRb a w (post2 rfl rfl rfl (fun w hM => ?_) a w hF hM))
      have e : missOut fs ms ts = out := by rw [missOut, if_pos h20, hp4, hft.end (by omega)]; rfl
      rw [e, hp3, h20]
      exact ⟨A, c, rfl, hM.sat 9 _ rfl, hM.below⟩
end Go.Proofs.YtofolhnecfkjkaaDoor
