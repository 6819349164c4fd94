/- The reference: Resolved. Conditions: the arguments are right. -/
import Derived.Test.YtofolhnecfkjkaaDoorRefA
import Derived.Test.YtofolhnecfkjkaaDoorRefR
import Derived.Test.YtofolhnecfkjkaaDoorResol
namespace Go.Proofs.YtofolhnecfkjkaaDoor
set_option linter.unusedSimpArgs false
set_option linter.unusedVariables false
set_option maxRecDepth 20000
open Go.RowKit Go.Eng
theorem frms_right : ∀ l : List Frm, frmsNo l = 0 → ∀ f ∈ l, -1 ≤ f.ad
  | [], _ => fun f h => by cases h
  | a :: r, h => by
    unfold frmsNo at h
    split at h
    · rename_i h1; exact absurd h h1
    rename_i h1
    intro f hf
    rcases List.mem_cons.1 hf with rfl | hf
    · have h1 : frmNo f = 0 := by simpa using h1
      unfold frmNo at h1
      split at h1
      · rename_i h2; exact absurd h1 h2
      split at h1
      · cases h1
      rename_i h3
      simp only [Bool.or_eq_true, decide_eq_true_eq, not_or] at h3
      omega
    · exact frms_right r h f hf
theorem frames_right {fs : Sl Frm} (h : framesNo fs = 0) : ∀ f ∈ fs.l, -1 ≤ f.ad := frms_right _ (le_of_ite h).2
theorem plOf_eq {ad off : Int} {first : Bool} {ms : List SMod} {ts : List Tab} {m : SMod} {t : Tab} (h1 : 0 ≤ ad) (h2 : 0 ≤ findI (SMod.has ad) ms 0) (e1 : ms.getD (findI (SMod.has ad) ms 0).toNat m00 = m) (h3 : 0 ≤ findI (Tab.hasId m.id) ts 0)
    (e2 : ts.getD (findI (Tab.hasId m.id) ts 0).toNat t00 = t) (ho : offOf first ad m.fr = off) : plOf ad first ms ts = pl3 off m t := by
  rw [plOf, if_neg (by omega), e1, pl2, if_neg (by omega), e2, ho]
theorem pl3_at {off : Int} {m : SMod} {t : Tab} (h0 : 0 ≤ off) : refAt t off = (pl3 off m t).1 := by
  unfold refAt pl3 outB
  by_cases h : t.size ≤ off
  · rw [if_pos (by simp; omega), if_pos h]
  · rw [if_neg (by simp; omega), if_neg h]
theorem pl3_name {off : Int} {m : SMod} {t : Tab} (h : (pl3 off m t).1.length ≠ 0) : (pl3 off m t).2 = m.name := by
  unfold pl3 at h ⊢
  split
  · rename_i h1; rw [if_pos h1] at h; exact absurd rfl h
  · rfl
theorem plOf_none {ad : Int} {first : Bool} {ms : List SMod} {ts : List Tab} (ha : -1 ≤ ad) (h : ¬ (0 ≤ findI (SMod.has ad) ms 0 ∧ 0 ≤ ad)) : plOf ad first ms ts = ([], []) := if_pos (by omega)
theorem plOf_notab {ad : Int} {first : Bool} {ms : List SMod} {ts : List Tab} {m : SMod} (h1 : 0 ≤ ad) (h2 : 0 ≤ findI (SMod.has ad) ms 0) (e1 : ms.getD (findI (SMod.has ad) ms 0).toNat m00 = m) (h3 : findI (Tab.hasId m.id) ts 0 < 0) : plOf ad first ms ts = ([], []) := by
  rw [plOf, if_neg (by omega), e1, pl2, if_pos h3]
set_option maxHeartbeats 1600000 in
theorem Resolved_any (fs : Sl Frm) (ms : Sl SMod) (ts : Sl Tab) (w : World) (hfs : FrmsOk w fs) (hms : ModsOk w ms) (hts : TabsOk w ts) (ha : allNo fs ms ts = 0) :
    Calls Tryd.prog 30 #[.slice fs.A fs.q fs.c, .slice ms.A ms.q ms.c, .slice ts.A ts.q ts.c] w fun e w' => ∃ A c, e = .returned (.tuple #[.slice A (resOut fs ms ts).length c, .int .i64 (resNo fs ms ts)]) ∧
      w'.ownsRow w.heap.size 67 6 (.slice A (resOut fs ms ts).length c) (resOut fs ms ts).length ((resOut fs ms ts).flatMap Frm.enc) ∧ Below w.heap.size w w' := by
  have hft := hfs.ok.t
  have hfq := hfs.q
  have hmt := hms.ok.t
  have hml := hmt.len
  have hmq := hms.q
  have htt := hts.ok.t
  have htl := htt.len
  have htq := hts.q
  obtain ⟨hq2, hf0, hm0, ht0⟩ := allNo_zero ha
  have hfr := frames_right hf0
  refine enter_args (args := [.slice fs.A fs.q fs.c, .slice ms.A ms.q ms.c, .slice ts.A ts.q ts.c]) (F := _) Tryd.func30 rfl Tryd.ntmps30 rfl rfl ?_
  intro Rb hRb hRn
  refine T_seq ?_
  refine T_region ?_
  refine S_nilSlice 6 (e := 67) (size := 6) ?_
  refine S_ 6 rfl rfl rfl _ (y_assign rfl rfl) ?_
  refine S_ 7 rfl rfl rfl _ (y_assign rfl rfl) ?_
  refine S_go (fun _ _ h => h) ?_
  refine T_seq ?_
  refine T_region ?_
  refine S_nilSlice 8 (e := 67) (size := 6) ?_
  refine S_ 8 rfl rfl rfl _ (y_assign rfl rfl) ?_
  refine S_go (fun _ _ h => h) ?_
  refine T_seq ?_
  refine T_seq ?_
  refine T_region ?_
  refine S_ 18 rfl rfl rfl _ (y_move rfl rfl) ?_
  refine S_ 19 rfl rfl rfl _ (y_len_slice rfl rfl Tryd.underlying57) ?_
  refine S_ 20 rfl rfl rfl _ (y_move rfl rfl) ?_
  refine S_go (fun _ _ h => h) ?_
  refine T_block ?_
  refine T_loopK5 (kf := [(8, 15), (17, 17), (20, 106)]) (kl := [(8, 15), (17, 17), (20, 106)]) (fun (i : Nat) (out : List Frm) (q : Nat) (A : Option Addr) (c : Nat) => [(20, true, .int .i64 (i : Int)), (8, true, .slice A q c)]) (fun (i : Nat) (out : List Frm) (q : Nat) (A : Option Addr) (c : Nat) => [(8, .own 67 6 (.slice A q c) q (out.flatMap Frm.enc))]) (fun (i : Nat) (out : List Frm) (q : Nat) (A : Option Addr) (c : Nat) => i ≤ fs.q ∧ q ≤ i * 1002 ∧ out.length = q ∧ resAll ms.l ts.l true fs.l = out ++ resAll ms.l ts.l (decide ((i : Int) = 0)) (fs.l.drop i)) (fun (i : Nat) (out : List Frm) (q : Nat) (A : Option Addr) (c : Nat) => fs.q - i) 0 [] 0 none 0 (by repeat (first | exact kf_nil | (apply kf_in; focus rfl) | (apply kf_out; focus rfl))) (by repeat (first | exact kl_nil | exact kl_rest (by assumption) rfl | (apply kl_in; focus rfl) | (apply kl_out; focus rfl))) ?_ ?_ ?_ ?_
  · exact ⟨by omega, by omega, rfl, rfl⟩
  · exact ⟨rfl, rfl, trivial⟩
  · exact ⟨rfl, trivial⟩
  rintro i out q A c ⟨hp1, hp2, hp3, hp4⟩
  refine T_seq ?_
  refine T_region ?_
  refine S_ 21 rfl rfl rfl _ (y_bin rfl rfl rfl (fun _ => b_lss)) ?_
  refine S_go (fun _ _ h => h) ?_
  refine T_seq ?_
  refine T_cond rfl (fun h21 => ?_) (fun h21 => ?_)
  · try simp only [decide_eq_true_eq, decide_eq_false_iff_not, Bool.or_eq_true, Bool.or_eq_false_iff, Bool.and_eq_true, Bool.and_eq_false_iff, Bool.not_eq_true', Bool.not_eq_false', Bool.not_eq_true, Bool.not_eq_false, Bool.not_true, Bool.not_false, Int.not_lt, Int.not_le, not_or, not_and, Classical.not_not] at h21
    obtain ⟨f, hx1, hx2⟩ := hft.at (i := i) (by omega)
    have hpl := plOf_len hts.n ht0 f.ad (decide ((i : Int) = 0)) ms.l
    have hfa := hfr f (mem_at hx1)
    refine T_skip_go (fun _ _ h => h) ?_
    refine T_seq ?_
    refine T_block ?_
    refine T_seq ?_
    refine T_region ?_
    refine S_ 22 rfl rfl rfl _ (y_move rfl rfl) ?_
    refine S_ 23 rfl rfl rfl _ (y_indexAddr rfl rfl rfl Tryd.underlying57 sz67 (fun hg => hft.isSome (by omega)) (fun _ => by omega)) ?_
    refine S_ 24 rfl rfl rfl _ (y_loadT rfl rfl hft (fun _ => rfl) (fun _ => hx1) Tryd.underlying67 rfl sz67) ?_
    refine S_alloc 10 10 rfl rfl rfl rfl z67 ?_
    intro b10
    refine S_ 9 rfl rfl rfl _ (y_assign rfl rfl) ?_
    refine S_store 10 rfl rfl rfl rfl rfl rfl sz67 rfl rfl ?_
    refine S_go (fun _ _ h => h) ?_
    refine T_seq ?_
    refine T_region ?_
    refine S_buildSlice0 25 25 rfl rfl rfl rfl Tryd.underlying42 sz46 ?_
    intro b25
    refine S_ 11 rfl rfl rfl _ (y_assign rfl rfl) ?_
    refine S_go (fun _ _ h => h) ?_
    refine T_seq ?_
    refine T_region ?_
    refine S_ 27 rfl rfl rfl _ (y_move rfl rfl) ?_
    refine S_ 28 rfl rfl rfl _ (y_fieldAddr rfl rfl fa67_4) ?_
    refine S_ 29 rfl rfl rfl _ (y_load 10 rfl rfl rfl rfl Tryd.underlying3 rfl) ?_
    refine S_ 30 rfl rfl rfl _ (y_call rfl rfl rfl cf12 (fun _ w hM => ModuleOf_any ms f.ad w (hms.ok.below hM.below) hmq)) ?_
    refine S_ 26 rfl rfl rfl _ (y_move rfl rfl) ?_
    refine S_ 31 rfl rfl rfl _ (y_extract rfl rfl rfl) ?_
    refine S_ 32 rfl rfl rfl _ (y_extract rfl rfl rfl) ?_
    refine S_ 12 rfl rfl rfl _ (y_assign rfl rfl) ?_
    refine S_ 13 rfl rfl rfl _ (y_assign rfl rfl) ?_
    refine S_go (fun _ _ h => h) ?_
    refine T_seq ?_
    refine T_seq ?_
    refine T_region ?_
    refine S_ 33 rfl rfl rfl _ (y_move rfl rfl) ?_
    refine S_ 34 rfl rfl rfl _ (y_move rfl rfl) ?_
    refine Sg_ 35 rfl rfl rfl rfl rfl rfl _ (y_fieldAddr rfl rfl fa67_4) ?_
    refine Sg_ 36 rfl rfl rfl rfl rfl rfl _ (y_load 10 rfl rfl rfl rfl Tryd.underlying3 rfl) ?_
    refine Sg_ 37 rfl rfl rfl rfl rfl rfl _ (y_bin rfl rfl rfl (fun _ => b_geq)) ?_
    refine S_ 38 rfl rfl rfl _ (y_and rfl rfl rfl) ?_
    refine S_go (fun _ _ h => h) ?_
    refine T_cond rfl (fun h38 => ?_) (fun h38 => ?_)
    · skip
      have hc38 : 0 ≤ findI (SMod.has f.ad) ms.l 0 ∧ 0 ≤ f.ad := by simpa using h38
      obtain ⟨n, m, hn, hm, hp⟩ := findI_at ms.l 0 (by omega) hc38.1
      have hif : (if findI (SMod.has f.ad) ms.l 0 < 0 then 0 else findI (SMod.has f.ad) ms.l 0) = (n : Int) := by rw [if_neg (by omega)]; omega
      have e1 : ms.l.getD (findI (SMod.has f.ad) ms.l 0).toNat m00 = m := by rw [hn, show (0 + (n : Int)).toNat = n by omega, List.getD, hm]; rfl
      have hr := mods_right _ _ hm0 m (mem_at hm)
      have hpp : m.fr ≤ f.ad ∧ f.ad < m.to := by simpa [SMod.has] using hp
      have hnl := (List.getElem?_eq_some_iff.1 hm).1
      refine T_seq ?_
      refine T_region ?_
      refine S_ 39 rfl rfl rfl _ (y_move rfl rfl) ?_
      refine S_ 40 rfl rfl rfl _ (y_move rfl rfl) ?_
      refine S_ 41 rfl rfl rfl _ (y_move rfl rfl) ?_
      refine S_ 42 rfl rfl rfl _ (y_indexAddrI (j := n) rfl rfl rfl (fun _ => by omega) Tryd.underlying28 sz86 (fun hg => hmt.isSome (by omega)) (fun _ => by omega)) ?_
      refine S_ 43 rfl rfl rfl _ (y_fieldEl rfl rfl hmt.rd (fun _ => by omega) fa86_1) ?_
      refine S_ 44 rfl rfl rfl _ (y_load_fT rfl rfl hmt (fun _ => rfl) (fun _ => hm) rfl Tryd.underlying9 rfl) ?_
      refine S_ 45 rfl rfl rfl _ (y_call rfl rfl rfl cf75 (fun _ w hM => tableOf_any _ _ _ _ m.id w (htt.below hM.below) htq)) ?_
      refine S_ 14 rfl rfl rfl _ (y_assign rfl rfl) ?_
      refine S_go (fun _ _ h => h) ?_
      refine T_seq ?_
      refine T_region ?_
      refine S_ 46 rfl rfl rfl _ (y_move rfl rfl) ?_
      refine S_ 47 rfl rfl rfl _ (y_bin rfl rfl rfl (fun _ => b_geq)) ?_
      refine S_go (fun _ _ h => h) ?_
      refine T_cond rfl (fun h47 => ?_) (fun h47 => ?_)
      · try simp only [decide_eq_true_eq, decide_eq_false_iff_not, Bool.or_eq_true, Bool.or_eq_false_iff, Bool.and_eq_true, Bool.and_eq_false_iff, Bool.not_eq_true', Bool.not_eq_false', Bool.not_eq_true, Bool.not_eq_false, Bool.not_true, Bool.not_false, Int.not_lt, Int.not_le, not_or, not_and, Classical.not_not] at h47
        obtain ⟨k, t, hk, ht, _⟩ := findI_at ts.l 0 (by omega) h47
        have e2 : ts.l.getD (findI (Tab.hasId m.id) ts.l 0).toNat t00 = t := by rw [hk, show (0 + (k : Int)).toNat = k by omega, List.getD, ht]; rfl
        have hkl := (List.getElem?_eq_some_iff.1 ht).1
        refine T_seq ?_
        refine T_draws (by kernel_rfl) (by kernel_rfl) ?_
        refine D_ 48 rfl rfl rfl _ (y_fieldAddr rfl rfl fa67_4) ?_
        refine D_ 49 rfl rfl rfl _ (y_load 10 rfl rfl rfl rfl Tryd.underlying3 rfl) ?_
        refine D_ 50 rfl rfl rfl _ (y_move rfl rfl) ?_
        refine D_ 51 rfl rfl rfl _ (y_move rfl rfl) ?_
        refine D_ 52 rfl rfl rfl _ (y_indexAddrI (j := n) rfl rfl rfl (fun _ => by omega) Tryd.underlying28 sz86 (fun hg => hmt.isSome (by omega)) (fun _ => by omega)) ?_
        refine D_ 53 rfl rfl rfl _ (y_fieldEl rfl rfl hmt.rd (fun _ => by omega) fa86_2) ?_
        refine D_ 54 rfl rfl rfl _ (y_load_fT rfl rfl hmt (fun _ => rfl) (fun _ => hm) rfl Tryd.underlying3 rfl) ?_
        refine D_ 55 rfl rfl rfl _ (y_bin rfl rfl rfl (fun hg => b_sub (by omega))) ?_
        refine D_ 15 rfl rfl rfl _ (y_assign rfl rfl) ?_
        refine D_go (fun _ _ h => h) ?_
        refine T_seq ?_
        refine T_seq ?_
        refine T_region ?_
        refine S_ 56 rfl rfl rfl _ (y_move rfl rfl) ?_
        refine S_ 57 rfl rfl rfl _ (y_bin rfl rfl rfl (fun _ => b_gtr)) ?_
        refine S_ 58 rfl rfl rfl _ (y_move rfl rfl) ?_
        refine Sg_ 59 rfl rfl rfl rfl rfl rfl _ (y_move rfl rfl) ?_
        refine Sg_ 60 rfl rfl rfl rfl rfl rfl _ (y_bin rfl rfl rfl (fun _ => b_gtr)) ?_
        refine S_ 61 rfl rfl rfl _ (y_and rfl rfl rfl) ?_
        refine S_go (fun _ _ h => h) ?_
        refine T_cond rfl (fun h61 => ?_) (fun h61 => ?_)
        · skip
          have hc : (0 : Int) < i ∧ 0 < f.ad - m.fr := by simpa using h61
          have ho : offOf (decide ((i : Int) = 0)) f.ad m.fr = f.ad - m.fr - 1 := by rw [offOf, if_neg (by simp; omega), if_neg (by omega)]
          have hpe := plOf_eq (first := decide ((i : Int) = 0)) (ts := ts.l) hc38.2 hc38.1 e1 h47 e2 ho
          have hpa : refAt t (f.ad - m.fr - 1) = (plOf f.ad (decide ((i : Int) = 0)) ms.l ts.l).1 := by rw [hpe]; exact pl3_at (by omega)
          have hnm : (plOf f.ad (decide ((i : Int) = 0)) ms.l ts.l).1.length ≠ 0 → (plOf f.ad (decide ((i : Int) = 0)) ms.l ts.l).2 = m.name := by rw [hpe]; exact pl3_name
          refine T_region ?_
          refine S_ 62 rfl rfl rfl _ (y_move rfl rfl) ?_
          refine S_ 63 rfl rfl rfl _ (y_bin rfl rfl rfl (fun hg => b_sub (by omega))) ?_
          refine S_ 15 rfl rfl rfl _ (y_assign rfl rfl) ?_
          refine S_go (fun _ _ h => h) ?_
          refine T_region ?_
          refine S_ 65 rfl rfl rfl _ (y_move rfl rfl) ?_
          refine S_ 66 rfl rfl rfl _ (y_move rfl rfl) ?_
          refine S_ 67 rfl rfl rfl _ (y_indexAddrI (j := k) rfl rfl rfl (fun _ => by omega) Tryd.underlying58 sz27 (fun hg => htt.isSome (by omega)) (fun _ => by omega)) ?_
          refine S_ 68 rfl rfl rfl _ (y_loadT rfl rfl htt (fun _ => rfl) (fun _ => ht) Tryd.underlying27 rfl sz27) ?_
          refine S_ 69 rfl rfl rfl _ (y_move rfl rfl) ?_
          refine S_callOwn 70 70 rfl rfl rfl rfl rfl rfl rfl cf79 (fun A c => .tuple #[.slice A (plOf f.ad (decide ((i : Int) = 0)) ms.l ts.l).1.length c, .int .i64 (refAtNo t (f.ad - m.fr - 1))]) 46 3 ((plOf f.ad (decide ((i : Int) = 0)) ms.l ts.l).1.length) ((plOf f.ad (decide ((i : Int) = 0)) ms.l ts.l).1.flatMap SPlace.enc) (fun w hM => by
            have h := PlacesAt_any t (f.ad - m.fr - 1) w ((hts.n t (mem_at ht)).below hM.below) (ht0 t (mem_at ht))
            rw [hpa] at h
            exact h) ?_
          intro A70 c70
          refine S_ 64 rfl rfl rfl _ (y_move rfl rfl) ?_
          refine S_ 71 rfl rfl rfl _ (y_extract rfl rfl rfl) ?_
          refine S_ 72 rfl rfl rfl _ (y_extract rfl rfl rfl) ?_
          refine S_ 11 rfl rfl rfl _ (y_assign rfl rfl) ?_
          refine S_go (fun _ _ h => h) ?_
          refine T_seq ?_
          refine T_seq ?_
          refine T_region ?_
          refine S_ 73 rfl rfl rfl _ (y_move rfl rfl) ?_
          refine S_ 74 rfl rfl rfl _ (y_len_slice rfl rfl Tryd.underlying42) ?_
          refine S_ 75 rfl rfl rfl _ (y_bin rfl rfl rfl (fun _ => b_eql)) ?_
          refine S_go (fun _ _ h => h) ?_
          refine T_cond rfl (fun h75 => ?_) (fun h75 => ?_)
          · try simp only [decide_eq_true_eq, decide_eq_false_iff_not, Bool.or_eq_true, Bool.or_eq_false_iff, Bool.and_eq_true, Bool.and_eq_false_iff, Bool.not_eq_true', Bool.not_eq_false', Bool.not_eq_true, Bool.not_eq_false, Bool.not_true, Bool.not_false, Int.not_lt, Int.not_le, not_or, not_and, Classical.not_not] at h75
            refine T_region ?_
            refine S_ 76 rfl rfl rfl _ (y_move rfl rfl) ?_
            refine S_ 77 rfl rfl rfl _ (y_loadA 10 rfl rfl rfl Tryd.underlying67 rfl sz67) ?_
            refine S_buildSlice 78 78 rfl rfl rfl rfl rfl Tryd.underlying57 inf67 rfl (by decide) (by decide) rfl rfl (by decide) rfl (_) rfl ?_
            intro b78
            obtain ⟨i79, hi79, hz79, hs79, hy79⟩ := info_parts inf67
            refine S_append 79 8 78 rfl rfl rfl rfl rfl rfl rfl rfl Tryd.underlying57 hi79 hz79 hs79 hy79 rfl (by decide) (by decide) rfl ?_ ?_ (q + 1) ((out ++ [f]).flatMap Frm.enc) ?_ ?_ ?_
            · (simp only [maxLen]; omega)
            · omega
            · rfl
            · simp [List.flatMap_append, Frm.enc]; rfl
            intro A79 c79
            refine S_ 8 rfl rfl rfl _ (y_assign rfl rfl) ?_
            refine S_go (fun _ _ h => h) ?_
            refine T_seq ?_
            refine T_region ?_
            refine S_ 80 rfl rfl rfl _ (y_move rfl rfl) ?_
            refine S_ 81 rfl rfl rfl _ (y_len_slice rfl rfl Tryd.underlying42) ?_
            refine S_ 82 rfl rfl rfl _ (y_move rfl rfl) ?_
            refine S_go (fun _ _ h => h) ?_
            refine T_block ?_
            refine T_loopK5 (kf := [(8, 8), (17, 17), (82, 105)]) (kl := [(8, 8), (17, 17), (82, 105)]) (fun (j : Nat) (o2 : List Frm) (q2 : Nat) (A2 : Option Addr) (c2 : Nat) => [(82, true, .int .i64 (j : Int)), (8, true, .slice A2 q2 c2)]) (fun (j : Nat) (o2 : List Frm) (q2 : Nat) (A2 : Option Addr) (c2 : Nat) => [(8, .own 67 6 (.slice A2 q2 c2) q2 (o2.flatMap Frm.enc))]) (fun (j : Nat) (o2 : List Frm) (q2 : Nat) (A2 : Option Addr) (c2 : Nat) => j ≤ (plOf f.ad (decide ((i : Int) = 0)) ms.l ts.l).1.length ∧ q2 ≤ i * 1002 + 1 + j ∧ o2.length = q2 ∧ o2 ++ ((plOf f.ad (decide ((i : Int) = 0)) ms.l ts.l).1.drop j).map (mkFrm f m.name) = out ++ resOf (decide ((i : Int) = 0)) f ms.l ts.l) (fun (j : Nat) (o2 : List Frm) (q2 : Nat) (A2 : Option Addr) (c2 : Nat) => (plOf f.ad (decide ((i : Int) = 0)) ms.l ts.l).1.length - j) 0 (out ++ [f]) (q + 1) A79 c79 (by repeat (first | exact kf_nil | (apply kf_in; focus rfl) | (apply kf_out; focus rfl))) (by repeat (first | exact kl_nil | exact kl_rest (by assumption) rfl | (apply kl_in; focus rfl) | (apply kl_out; focus rfl))) ?_ ?_ ?_ ?_
            · exact ⟨by omega, by omega, by simp [hp3], by rw [resOf, if_pos (by omega), List.drop_zero, List.eq_nil_of_length_eq_zero (by omega : (plOf f.ad (decide ((i : Int) = 0)) ms.l ts.l).1.length = 0)]; simp⟩
            · exact ⟨rfl, rfl, trivial⟩
            · exact ⟨rfl, trivial⟩
            rintro j o2 q2 A2 c2 ⟨hr1, hr2, hr3, hr4⟩
            refine T_seq ?_
            refine T_region ?_
            refine S_ 83 rfl rfl rfl _ (y_bin rfl rfl rfl (fun _ => b_lss)) ?_
            refine S_go (fun _ _ h => h) ?_
            refine T_seq ?_
            refine T_cond rfl (fun h83 => ?_) (fun h83 => ?_)
            · try simp only [decide_eq_true_eq, decide_eq_false_iff_not, Bool.or_eq_true, Bool.or_eq_false_iff, Bool.and_eq_true, Bool.and_eq_false_iff, Bool.not_eq_true', Bool.not_eq_false', Bool.not_eq_true, Bool.not_eq_false, Bool.not_true, Bool.not_false, Int.not_lt, Int.not_le, not_or, not_and, Classical.not_not] at h83
              obtain ⟨s, hs1, hs2⟩ := at_lt (l := (plOf f.ad (decide ((i : Int) = 0)) ms.l ts.l).1) (i := j) (by omega)
              refine T_skip_go (fun _ _ h => h) ?_
              refine T_seq ?_
              refine T_block ?_
              refine T_seq ?_
              refine T_region ?_
              refine S_ 84 rfl rfl rfl _ (y_indexOwn 70 rfl rfl rfl rfl Tryd.underlying42 sz46 (fun _ => by omega)) ?_
              refine S_ 85 rfl rfl rfl _ (y_loadO 70 rfl rfl rfl rfl (fun _ => rfl) (fun _ => hs1) Tryd.underlying46 rfl sz46) ?_
              refine S_alloc 17 17 rfl rfl rfl rfl z46 ?_
              intro b17
              refine S_store 17 rfl rfl rfl rfl rfl rfl sz46 rfl rfl ?_
              refine S_go (fun _ _ h => h) ?_
              refine T_perm [0, 1, 2, 3, 4, 5, 6, 7, 8, 9, 10, 11, 12, 13, 14, 15, 16, 17, 18, 19] [true, true, true, true, true, true, true, true, true, true, true, true, true, true, true, true, true, false, false, true] [0, 0, 0, 6, 14, 30, 0, 64, 0, 256, 0, 1024, 0, 4096, 0, 16384, 65534, 131070, 262143, 524287] [(7, [17]), (9, [17]), (11, [17]), (13, [10]), (15, [10])] (by kernel_rfl) (by kernel_rfl) (by kernel_rfl) rfl (by kernel_rfl) ?_
              refine Rf_ 0 86 rfl rfl rfl rfl rfl _ trivial (Y.z (y_move rfl rfl) rfl) ?_
              refine Rf_ 1 87 rfl rfl rfl rfl rfl _ trivial (Y.z (y_move rfl rfl) rfl) ?_
              refine Rf_ 2 88 rfl rfl rfl rfl rfl _ trivial (Y.z (y_move rfl rfl) rfl) ?_
              refine Rf_ 3 89 rfl rfl rfl rfl rfl _ trivial (Y.z (y_indexAddrI (j := n) rfl rfl rfl (fun _ => by omega) Tryd.underlying28 sz86 (fun hg => hmt.isSome (by omega)) (fun _ => by omega)) rfl) ?_
              refine Rf_ 4 90 rfl rfl rfl rfl rfl _ trivial (Y.z (y_fieldEl rfl rfl hmt.rd (fun _ => by omega) fa86_0) rfl) ?_
              refine Rf_ 5 91 rfl rfl rfl rfl rfl _ trivial (Y.z (y_load_fT rfl rfl hmt (fun _ => rfl) (fun _ => hm) rfl Tryd.underlying9 rfl) rfl) ?_
              refine Rf_ 6 92 rfl rfl rfl rfl rfl _ trivial (Y.z (y_fieldAddr rfl rfl fa46_0) rfl) ?_
              refine Rf_ 7 93 rfl rfl rfl rfl rfl _ ⟨rfl, trivial⟩ (Y.z (y_load 17 rfl rfl rfl rfl Tryd.underlying9 rfl) rfl) ?_
              refine Rf_ 8 94 rfl rfl rfl rfl rfl _ trivial (Y.z (y_fieldAddr rfl rfl fa46_1) rfl) ?_
              refine Rf_ 9 95 rfl rfl rfl rfl rfl _ ⟨rfl, trivial⟩ (Y.z (y_load 17 rfl rfl rfl rfl Tryd.underlying9 rfl) rfl) ?_
              refine Rf_ 10 96 rfl rfl rfl rfl rfl _ trivial (Y.z (y_fieldAddr rfl rfl fa46_2) rfl) ?_
              refine Rf_ 11 97 rfl rfl rfl rfl rfl _ ⟨rfl, trivial⟩ (Y.z (y_load 17 rfl rfl rfl rfl Tryd.underlying3 rfl) rfl) ?_
              refine Rf_ 12 98 rfl rfl rfl rfl rfl _ trivial (Y.z (y_fieldAddr rfl rfl fa67_4) rfl) ?_
              refine Rf_ 13 99 rfl rfl rfl rfl rfl _ ⟨rfl, trivial⟩ (Y.z (y_load 10 rfl rfl rfl rfl Tryd.underlying3 rfl) rfl) ?_
              refine Rf_ 14 100 rfl rfl rfl rfl rfl _ trivial (Y.z (y_fieldAddr rfl rfl fa67_5) rfl) ?_
              refine Rf_ 15 101 rfl rfl rfl rfl rfl _ ⟨rfl, trivial⟩ (Y.z (y_load 10 rfl rfl rfl rfl Tryd.underlying4 rfl) rfl) ?_
              refine Rf_ 16 102 rfl rfl rfl rfl rfl _ trivial (Y.z (y_build (zv := .agg #[.string ⟨#[]⟩, .string ⟨#[]⟩, .string ⟨#[]⟩, .int .i64 0, .int .i64 0, .bool false]) (pl := [(0, 1), (1, 1), (2, 1), (3, 1), (4, 1), (5, 1)]) (out := [_, _, _, _, _, _]) rfl rfl Tryd.underlying67 z67 (by kernel_rfl) rfl) rfl) ?_
              refine R_chain 17 rfl rfl ?_
              refine S_buildSlice 103 103 rfl rfl rfl rfl rfl Tryd.underlying57 inf67 rfl (by decide) (by decide) rfl rfl (by decide) rfl (_) rfl ?_
              intro b103
              refine R_next ⟨.inl rfl, .inl rfl, .inl rfl, .inl rfl, .inl rfl, trivial⟩ ?_
              refine R_chain 18 rfl rfl ?_
              obtain ⟨i104, hi104, hz104, hs104, hy104⟩ := info_parts inf67
              refine S_append 104 8 103 rfl rfl rfl rfl rfl rfl rfl rfl Tryd.underlying57 hi104 hz104 hs104 hy104 rfl (by decide) (by decide) rfl ?_ ?_ (q2 + 1) ((o2 ++ [mkFrm f m.name s]).flatMap Frm.enc) ?_ ?_ ?_
              · (simp only [maxLen]; omega)
              · omega
              · rfl
              · simp [List.flatMap_append, Frm.enc, mkFrm]; rfl
              intro A104 c104
              refine R_next ⟨.inl rfl, .inl rfl, .inl rfl, .inl rfl, .inl rfl, trivial⟩ ?_
              refine Rf_ 19 8 rfl rfl rfl rfl rfl _ trivial (Y.z (y_assign rfl rfl) rfl) ?_
              refine R_go (fun _ _ h => h) ?_
              refine T_region ?_
              refine S_ 105 rfl rfl rfl _ (y_bin rfl rfl rfl (fun hg => b_add (by omega))) ?_
              refine S_ 82 rfl rfl rfl _ (y_move rfl rfl) ?_
              refine S_nil (nextK5 (kf := [(8, 8), (17, 17), (82, 105)]) (kl := [(8, 8), (17, 17), (82, 105)]) (j + 1) (o2 ++ [mkFrm f m.name s]) (q2 + 1) A104 c104 (by repeat (first | exact kf_nil | (apply kf_in; focus rfl) | (apply kf_out; focus rfl))) (by repeat (first | exact kl_nil | exact kl_rest (by assumption) rfl | (apply kl_in; focus rfl) | (apply kl_out; focus rfl))) ?_ ?_ ?_ ?_)
              · omega
              · exact ⟨by omega, by omega, by simp [hr3], by rw [← hr4, hs2, List.map_cons, List.append_assoc]; rfl⟩
              · exact ⟨rfl, rfl, trivial⟩
              · exact ⟨rfl, trivial⟩
            · try simp only [decide_eq_true_eq, decide_eq_false_iff_not, Bool.or_eq_true, Bool.or_eq_false_iff, Bool.and_eq_true, Bool.and_eq_false_iff, Bool.not_eq_true', Bool.not_eq_false', Bool.not_eq_true, Bool.not_eq_false, Bool.not_true, Bool.not_false, Int.not_lt, Int.not_le, not_or, not_and, Classical.not_not] at h83
              refine T_exit_go (fun _ _ h => h) ?_
              refine T_region ?_
              refine S_ 106 rfl rfl rfl _ (y_bin rfl rfl rfl (fun hg => b_add (by omega))) ?_
              refine S_ 20 rfl rfl rfl _ (y_move rfl rfl) ?_
              refine S_nil (nextK5 (kf := [(8, 15), (17, 17), (20, 106)]) (kl := [(8, 15), (17, 17), (20, 106)]) (i + 1) o2 q2 A2 c2 (by repeat (first | exact kf_nil | (apply kf_in; focus rfl) | (apply kf_out; focus rfl))) (by repeat (first | exact kl_nil | exact kl_rest (by assumption) rfl | (apply kl_in; focus rfl) | (apply kl_out; focus rfl))) ?_ ?_ ?_ ?_)
              · omega
              · exact ⟨by omega, by omega, hr3, by rw [hp4, hx2, resAll, ← List.append_assoc, ← hr4, List.drop_eq_nil_of_le (by omega), List.map_nil, List.append_nil, show decide (((i + 1 : Nat) : Int) = 0) = false from decide_eq_false (by omega)]⟩
              · exact ⟨rfl, rfl, trivial⟩
              · exact ⟨rfl, trivial⟩
          · try simp only [decide_eq_true_eq, decide_eq_false_iff_not, Bool.or_eq_true, Bool.or_eq_false_iff, Bool.and_eq_true, Bool.and_eq_false_iff, Bool.not_eq_true', Bool.not_eq_false', Bool.not_eq_true, Bool.not_eq_false, Bool.not_true, Bool.not_false, Int.not_lt, Int.not_le, not_or, not_and, Classical.not_not] at h75
            refine T_skip_go (fun _ _ h => h) ?_
            refine T_seq ?_
            refine T_region ?_
            refine S_ 80 rfl rfl rfl _ (y_move rfl rfl) ?_
            refine S_ 81 rfl rfl rfl _ (y_len_slice rfl rfl Tryd.underlying42) ?_
            refine S_ 82 rfl rfl rfl _ (y_move rfl rfl) ?_
            refine S_go (fun _ _ h => h) ?_
            refine T_block ?_
            refine T_loopK5 (kf := [(8, 8), (17, 17), (82, 105)]) (kl := [(8, 8), (17, 17), (82, 105)]) (fun (j : Nat) (o2 : List Frm) (q2 : Nat) (A2 : Option Addr) (c2 : Nat) => [(82, true, .int .i64 (j : Int)), (8, true, .slice A2 q2 c2)]) (fun (j : Nat) (o2 : List Frm) (q2 : Nat) (A2 : Option Addr) (c2 : Nat) => [(8, .own 67 6 (.slice A2 q2 c2) q2 (o2.flatMap Frm.enc))]) (fun (j : Nat) (o2 : List Frm) (q2 : Nat) (A2 : Option Addr) (c2 : Nat) => j ≤ (plOf f.ad (decide ((i : Int) = 0)) ms.l ts.l).1.length ∧ q2 ≤ i * 1002 + 1 + j ∧ o2.length = q2 ∧ o2 ++ ((plOf f.ad (decide ((i : Int) = 0)) ms.l ts.l).1.drop j).map (mkFrm f m.name) = out ++ resOf (decide ((i : Int) = 0)) f ms.l ts.l) (fun (j : Nat) (o2 : List Frm) (q2 : Nat) (A2 : Option Addr) (c2 : Nat) => (plOf f.ad (decide ((i : Int) = 0)) ms.l ts.l).1.length - j) 0 out q A c (by repeat (first | exact kf_nil | (apply kf_in; focus rfl) | (apply kf_out; focus rfl))) (by repeat (first | exact kl_nil | exact kl_rest (by assumption) rfl | (apply kl_in; focus rfl) | (apply kl_out; focus rfl))) ?_ ?_ ?_ ?_
            · exact ⟨by omega, by omega, hp3, by rw [resOf, if_neg (by omega), List.drop_zero, hnm (by omega)]⟩
            · exact ⟨rfl, rfl, trivial⟩
            · exact ⟨rfl, trivial⟩
            rintro j o2 q2 A2 c2 ⟨hr1, hr2, hr3, hr4⟩
            refine T_seq ?_
            refine T_region ?_
            refine S_ 83 rfl rfl rfl _ (y_bin rfl rfl rfl (fun _ => b_lss)) ?_
            refine S_go (fun _ _ h => h) ?_
            refine T_seq ?_
            refine T_cond rfl (fun h83 => ?_) (fun h83 => ?_)
            · try simp only [decide_eq_true_eq, decide_eq_false_iff_not, Bool.or_eq_true, Bool.or_eq_false_iff, Bool.and_eq_true, Bool.and_eq_false_iff, Bool.not_eq_true', Bool.not_eq_false', Bool.not_eq_true, Bool.not_eq_false, Bool.not_true, Bool.not_false, Int.not_lt, Int.not_le, not_or, not_and, Classical.not_not] at h83
              obtain ⟨s, hs1, hs2⟩ := at_lt (l := (plOf f.ad (decide ((i : Int) = 0)) ms.l ts.l).1) (i := j) (by omega)
              refine T_skip_go (fun _ _ h => h) ?_
              refine T_seq ?_
              refine T_block ?_
              refine T_seq ?_
              refine T_region ?_
              refine S_ 84 rfl rfl rfl _ (y_indexOwn 70 rfl rfl rfl rfl Tryd.underlying42 sz46 (fun _ => by omega)) ?_
              refine S_ 85 rfl rfl rfl _ (y_loadO 70 rfl rfl rfl rfl (fun _ => rfl) (fun _ => hs1) Tryd.underlying46 rfl sz46) ?_
              refine S_alloc 17 17 rfl rfl rfl rfl z46 ?_
              intro b17
              refine S_store 17 rfl rfl rfl rfl rfl rfl sz46 rfl rfl ?_
              refine S_go (fun _ _ h => h) ?_
              refine T_perm [0, 1, 2, 3, 4, 5, 6, 7, 8, 9, 10, 11, 12, 13, 14, 15, 16, 17, 18, 19] [true, true, true, true, true, true, true, true, true, true, true, true, true, true, true, true, true, false, false, true] [0, 0, 0, 6, 14, 30, 0, 64, 0, 256, 0, 1024, 0, 4096, 0, 16384, 65534, 131070, 262143, 524287] [(7, [17]), (9, [17]), (11, [17]), (13, [10]), (15, [10])] (by kernel_rfl) (by kernel_rfl) (by kernel_rfl) rfl (by kernel_rfl) ?_
              refine Rf_ 0 86 rfl rfl rfl rfl rfl _ trivial (Y.z (y_move rfl rfl) rfl) ?_
              refine Rf_ 1 87 rfl rfl rfl rfl rfl _ trivial (Y.z (y_move rfl rfl) rfl) ?_
              refine Rf_ 2 88 rfl rfl rfl rfl rfl _ trivial (Y.z (y_move rfl rfl) rfl) ?_
              refine Rf_ 3 89 rfl rfl rfl rfl rfl _ trivial (Y.z (y_indexAddrI (j := n) rfl rfl rfl (fun _ => by omega) Tryd.underlying28 sz86 (fun hg => hmt.isSome (by omega)) (fun _ => by omega)) rfl) ?_
              refine Rf_ 4 90 rfl rfl rfl rfl rfl _ trivial (Y.z (y_fieldEl rfl rfl hmt.rd (fun _ => by omega) fa86_0) rfl) ?_
              refine Rf_ 5 91 rfl rfl rfl rfl rfl _ trivial (Y.z (y_load_fT rfl rfl hmt (fun _ => rfl) (fun _ => hm) rfl Tryd.underlying9 rfl) rfl) ?_
              refine Rf_ 6 92 rfl rfl rfl rfl rfl _ trivial (Y.z (y_fieldAddr rfl rfl fa46_0) rfl) ?_
              refine Rf_ 7 93 rfl rfl rfl rfl rfl _ ⟨rfl, trivial⟩ (Y.z (y_load 17 rfl rfl rfl rfl Tryd.underlying9 rfl) rfl) ?_
              refine Rf_ 8 94 rfl rfl rfl rfl rfl _ trivial (Y.z (y_fieldAddr rfl rfl fa46_1) rfl) ?_
              refine Rf_ 9 95 rfl rfl rfl rfl rfl _ ⟨rfl, trivial⟩ (Y.z (y_load 17 rfl rfl rfl rfl Tryd.underlying9 rfl) rfl) ?_
              refine Rf_ 10 96 rfl rfl rfl rfl rfl _ trivial (Y.z (y_fieldAddr rfl rfl fa46_2) rfl) ?_
              refine Rf_ 11 97 rfl rfl rfl rfl rfl _ ⟨rfl, trivial⟩ (Y.z (y_load 17 rfl rfl rfl rfl Tryd.underlying3 rfl) rfl) ?_
              refine Rf_ 12 98 rfl rfl rfl rfl rfl _ trivial (Y.z (y_fieldAddr rfl rfl fa67_4) rfl) ?_
              refine Rf_ 13 99 rfl rfl rfl rfl rfl _ ⟨rfl, trivial⟩ (Y.z (y_load 10 rfl rfl rfl rfl Tryd.underlying3 rfl) rfl) ?_
              refine Rf_ 14 100 rfl rfl rfl rfl rfl _ trivial (Y.z (y_fieldAddr rfl rfl fa67_5) rfl) ?_
              refine Rf_ 15 101 rfl rfl rfl rfl rfl _ ⟨rfl, trivial⟩ (Y.z (y_load 10 rfl rfl rfl rfl Tryd.underlying4 rfl) rfl) ?_
              refine Rf_ 16 102 rfl rfl rfl rfl rfl _ trivial (Y.z (y_build (zv := .agg #[.string ⟨#[]⟩, .string ⟨#[]⟩, .string ⟨#[]⟩, .int .i64 0, .int .i64 0, .bool false]) (pl := [(0, 1), (1, 1), (2, 1), (3, 1), (4, 1), (5, 1)]) (out := [_, _, _, _, _, _]) rfl rfl Tryd.underlying67 z67 (by kernel_rfl) rfl) rfl) ?_
              refine R_chain 17 rfl rfl ?_
              refine S_buildSlice 103 103 rfl rfl rfl rfl rfl Tryd.underlying57 inf67 rfl (by decide) (by decide) rfl rfl (by decide) rfl (_) rfl ?_
              intro b103
              refine R_next ⟨.inl rfl, .inl rfl, .inl rfl, .inl rfl, .inl rfl, trivial⟩ ?_
              refine R_chain 18 rfl rfl ?_
              obtain ⟨i104, hi104, hz104, hs104, hy104⟩ := info_parts inf67
              refine S_append 104 8 103 rfl rfl rfl rfl rfl rfl rfl rfl Tryd.underlying57 hi104 hz104 hs104 hy104 rfl (by decide) (by decide) rfl ?_ ?_ (q2 + 1) ((o2 ++ [mkFrm f m.name s]).flatMap Frm.enc) ?_ ?_ ?_
              · (simp only [maxLen]; omega)
              · omega
              · rfl
              · simp [List.flatMap_append, Frm.enc, mkFrm]; rfl
              intro A104 c104
              refine R_next ⟨.inl rfl, .inl rfl, .inl rfl, .inl rfl, .inl rfl, trivial⟩ ?_
              refine Rf_ 19 8 rfl rfl rfl rfl rfl _ trivial (Y.z (y_assign rfl rfl) rfl) ?_
              refine R_go (fun _ _ h => h) ?_
              refine T_region ?_
              refine S_ 105 rfl rfl rfl _ (y_bin rfl rfl rfl (fun hg => b_add (by omega))) ?_
              refine S_ 82 rfl rfl rfl _ (y_move rfl rfl) ?_
              refine S_nil (nextK5 (kf := [(8, 8), (17, 17), (82, 105)]) (kl := [(8, 8), (17, 17), (82, 105)]) (j + 1) (o2 ++ [mkFrm f m.name s]) (q2 + 1) A104 c104 (by repeat (first | exact kf_nil | (apply kf_in; focus rfl) | (apply kf_out; focus rfl))) (by repeat (first | exact kl_nil | exact kl_rest (by assumption) rfl | (apply kl_in; focus rfl) | (apply kl_out; focus rfl))) ?_ ?_ ?_ ?_)
              · omega
              · exact ⟨by omega, by omega, by simp [hr3], by rw [← hr4, hs2, List.map_cons, List.append_assoc]; rfl⟩
              · exact ⟨rfl, rfl, trivial⟩
              · exact ⟨rfl, trivial⟩
            · try simp only [decide_eq_true_eq, decide_eq_false_iff_not, Bool.or_eq_true, Bool.or_eq_false_iff, Bool.and_eq_true, Bool.and_eq_false_iff, Bool.not_eq_true', Bool.not_eq_false', Bool.not_eq_true, Bool.not_eq_false, Bool.not_true, Bool.not_false, Int.not_lt, Int.not_le, not_or, not_and, Classical.not_not] at h83
              refine T_exit_go (fun _ _ h => h) ?_
              refine T_region ?_
              refine S_ 106 rfl rfl rfl _ (y_bin rfl rfl rfl (fun hg => b_add (by omega))) ?_
              refine S_ 20 rfl rfl rfl _ (y_move rfl rfl) ?_
              refine S_nil (nextK5 (kf := [(8, 15), (17, 17), (20, 106)]) (kl := [(8, 15), (17, 17), (20, 106)]) (i + 1) o2 q2 A2 c2 (by repeat (first | exact kf_nil | (apply kf_in; focus rfl) | (apply kf_out; focus rfl))) (by repeat (first | exact kl_nil | exact kl_rest (by assumption) rfl | (apply kl_in; focus rfl) | (apply kl_out; focus rfl))) ?_ ?_ ?_ ?_)
              · omega
              · exact ⟨by omega, by omega, hr3, by rw [hp4, hx2, resAll, ← List.append_assoc, ← hr4, List.drop_eq_nil_of_le (by omega), List.map_nil, List.append_nil, show decide (((i + 1 : Nat) : Int) = 0) = false from decide_eq_false (by omega)]⟩
              · exact ⟨rfl, rfl, trivial⟩
              · exact ⟨rfl, trivial⟩
        · skip
          have hc : ¬ ((0 : Int) < i ∧ 0 < f.ad - m.fr) := fun hh => by rw [decide_eq_true hh.1, decide_eq_true hh.2] at h61; cases h61
          have ho : offOf (decide ((i : Int) = 0)) f.ad m.fr = f.ad - m.fr := by
            unfold offOf
            by_cases hi : (i : Int) = 0
            · rw [if_pos (decide_eq_true hi)]
            · rw [if_neg (by simpa using hi), if_pos (by omega)]; omega
          have hpe := plOf_eq (first := decide ((i : Int) = 0)) (ts := ts.l) hc38.2 hc38.1 e1 h47 e2 ho
          have hpa : refAt t (f.ad - m.fr) = (plOf f.ad (decide ((i : Int) = 0)) ms.l ts.l).1 := by rw [hpe]; exact pl3_at (by omega)
          have hnm : (plOf f.ad (decide ((i : Int) = 0)) ms.l ts.l).1.length ≠ 0 → (plOf f.ad (decide ((i : Int) = 0)) ms.l ts.l).2 = m.name := by rw [hpe]; exact pl3_name
          refine T_skip_go (fun _ _ h => h) ?_
          refine T_region ?_
          refine S_ 65 rfl rfl rfl _ (y_move rfl rfl) ?_
          refine S_ 66 rfl rfl rfl _ (y_move rfl rfl) ?_
          refine S_ 67 rfl rfl rfl _ (y_indexAddrI (j := k) rfl rfl rfl (fun _ => by omega) Tryd.underlying58 sz27 (fun hg => htt.isSome (by omega)) (fun _ => by omega)) ?_
          refine S_ 68 rfl rfl rfl _ (y_loadT rfl rfl htt (fun _ => rfl) (fun _ => ht) Tryd.underlying27 rfl sz27) ?_
          refine S_ 69 rfl rfl rfl _ (y_move rfl rfl) ?_
          refine S_callOwn 70 70 rfl rfl rfl rfl rfl rfl rfl cf79 (fun A c => .tuple #[.slice A (plOf f.ad (decide ((i : Int) = 0)) ms.l ts.l).1.length c, .int .i64 (refAtNo t (f.ad - m.fr))]) 46 3 ((plOf f.ad (decide ((i : Int) = 0)) ms.l ts.l).1.length) ((plOf f.ad (decide ((i : Int) = 0)) ms.l ts.l).1.flatMap SPlace.enc) (fun w hM => by
            have h := PlacesAt_any t (f.ad - m.fr) w ((hts.n t (mem_at ht)).below hM.below) (ht0 t (mem_at ht))
            rw [hpa] at h
            exact h) ?_
          intro A70 c70
          refine S_ 64 rfl rfl rfl _ (y_move rfl rfl) ?_
          refine S_ 71 rfl rfl rfl _ (y_extract rfl rfl rfl) ?_
          refine S_ 72 rfl rfl rfl _ (y_extract rfl rfl rfl) ?_
          refine S_ 11 rfl rfl rfl _ (y_assign rfl rfl) ?_
          refine S_go (fun _ _ h => h) ?_
          refine T_seq ?_
          refine T_seq ?_
          refine T_region ?_
          refine S_ 73 rfl rfl rfl _ (y_move rfl rfl) ?_
          refine S_ 74 rfl rfl rfl _ (y_len_slice rfl rfl Tryd.underlying42) ?_
          refine S_ 75 rfl rfl rfl _ (y_bin rfl rfl rfl (fun _ => b_eql)) ?_
          refine S_go (fun _ _ h => h) ?_
          refine T_cond rfl (fun h75 => ?_) (fun h75 => ?_)
          · try simp only [decide_eq_true_eq, decide_eq_false_iff_not, Bool.or_eq_true, Bool.or_eq_false_iff, Bool.and_eq_true, Bool.and_eq_false_iff, Bool.not_eq_true', Bool.not_eq_false', Bool.not_eq_true, Bool.not_eq_false, Bool.not_true, Bool.not_false, Int.not_lt, Int.not_le, not_or, not_and, Classical.not_not] at h75
            refine T_region ?_
            refine S_ 76 rfl rfl rfl _ (y_move rfl rfl) ?_
            refine S_ 77 rfl rfl rfl _ (y_loadA 10 rfl rfl rfl Tryd.underlying67 rfl sz67) ?_
            refine S_buildSlice 78 78 rfl rfl rfl rfl rfl Tryd.underlying57 inf67 rfl (by decide) (by decide) rfl rfl (by decide) rfl (_) rfl ?_
            intro b78
            obtain ⟨i79, hi79, hz79, hs79, hy79⟩ := info_parts inf67
            refine S_append 79 8 78 rfl rfl rfl rfl rfl rfl rfl rfl Tryd.underlying57 hi79 hz79 hs79 hy79 rfl (by decide) (by decide) rfl ?_ ?_ (q + 1) ((out ++ [f]).flatMap Frm.enc) ?_ ?_ ?_
            · (simp only [maxLen]; omega)
            · omega
            · rfl
            · simp [List.flatMap_append, Frm.enc]; rfl
            intro A79 c79
            refine S_ 8 rfl rfl rfl _ (y_assign rfl rfl) ?_
            refine S_go (fun _ _ h => h) ?_
            refine T_seq ?_
            refine T_region ?_
            refine S_ 80 rfl rfl rfl _ (y_move rfl rfl) ?_
            refine S_ 81 rfl rfl rfl _ (y_len_slice rfl rfl Tryd.underlying42) ?_
            refine S_ 82 rfl rfl rfl _ (y_move rfl rfl) ?_
            refine S_go (fun _ _ h => h) ?_
            refine T_block ?_
            refine T_loopK5 (kf := [(8, 8), (17, 17), (82, 105)]) (kl := [(8, 8), (17, 17), (82, 105)]) (fun (j : Nat) (o2 : List Frm) (q2 : Nat) (A2 : Option Addr) (c2 : Nat) => [(82, true, .int .i64 (j : Int)), (8, true, .slice A2 q2 c2)]) (fun (j : Nat) (o2 : List Frm) (q2 : Nat) (A2 : Option Addr) (c2 : Nat) => [(8, .own 67 6 (.slice A2 q2 c2) q2 (o2.flatMap Frm.enc))]) (fun (j : Nat) (o2 : List Frm) (q2 : Nat) (A2 : Option Addr) (c2 : Nat) => j ≤ (plOf f.ad (decide ((i : Int) = 0)) ms.l ts.l).1.length ∧ q2 ≤ i * 1002 + 1 + j ∧ o2.length = q2 ∧ o2 ++ ((plOf f.ad (decide ((i : Int) = 0)) ms.l ts.l).1.drop j).map (mkFrm f m.name) = out ++ resOf (decide ((i : Int) = 0)) f ms.l ts.l) (fun (j : Nat) (o2 : List Frm) (q2 : Nat) (A2 : Option Addr) (c2 : Nat) => (plOf f.ad (decide ((i : Int) = 0)) ms.l ts.l).1.length - j) 0 (out ++ [f]) (q + 1) A79 c79 (by repeat (first | exact kf_nil | (apply kf_in; focus rfl) | (apply kf_out; focus rfl))) (by repeat (first | exact kl_nil | exact kl_rest (by assumption) rfl | (apply kl_in; focus rfl) | (apply kl_out; focus rfl))) ?_ ?_ ?_ ?_
            · exact ⟨by omega, by omega, by simp [hp3], by rw [resOf, if_pos (by omega), List.drop_zero, List.eq_nil_of_length_eq_zero (by omega : (plOf f.ad (decide ((i : Int) = 0)) ms.l ts.l).1.length = 0)]; simp⟩
            · exact ⟨rfl, rfl, trivial⟩
            · exact ⟨rfl, trivial⟩
            rintro j o2 q2 A2 c2 ⟨hr1, hr2, hr3, hr4⟩
            refine T_seq ?_
            refine T_region ?_
            refine S_ 83 rfl rfl rfl _ (y_bin rfl rfl rfl (fun _ => b_lss)) ?_
            refine S_go (fun _ _ h => h) ?_
            refine T_seq ?_
            refine T_cond rfl (fun h83 => ?_) (fun h83 => ?_)
            · try simp only [decide_eq_true_eq, decide_eq_false_iff_not, Bool.or_eq_true, Bool.or_eq_false_iff, Bool.and_eq_true, Bool.and_eq_false_iff, Bool.not_eq_true', Bool.not_eq_false', Bool.not_eq_true, Bool.not_eq_false, Bool.not_true, Bool.not_false, Int.not_lt, Int.not_le, not_or, not_and, Classical.not_not] at h83
              obtain ⟨s, hs1, hs2⟩ := at_lt (l := (plOf f.ad (decide ((i : Int) = 0)) ms.l ts.l).1) (i := j) (by omega)
              refine T_skip_go (fun _ _ h => h) ?_
              refine T_seq ?_
              refine T_block ?_
              refine T_seq ?_
              refine T_region ?_
              refine S_ 84 rfl rfl rfl _ (y_indexOwn 70 rfl rfl rfl rfl Tryd.underlying42 sz46 (fun _ => by omega)) ?_
              refine S_ 85 rfl rfl rfl _ (y_loadO 70 rfl rfl rfl rfl (fun _ => rfl) (fun _ => hs1) Tryd.underlying46 rfl sz46) ?_
              refine S_alloc 17 17 rfl rfl rfl rfl z46 ?_
              intro b17
              refine S_store 17 rfl rfl rfl rfl rfl rfl sz46 rfl rfl ?_
              refine S_go (fun _ _ h => h) ?_
              refine T_perm [0, 1, 2, 3, 4, 5, 6, 7, 8, 9, 10, 11, 12, 13, 14, 15, 16, 17, 18, 19] [true, true, true, true, true, true, true, true, true, true, true, true, true, true, true, true, true, false, false, true] [0, 0, 0, 6, 14, 30, 0, 64, 0, 256, 0, 1024, 0, 4096, 0, 16384, 65534, 131070, 262143, 524287] [(7, [17]), (9, [17]), (11, [17]), (13, [10]), (15, [10])] (by kernel_rfl) (by kernel_rfl) (by kernel_rfl) rfl (by kernel_rfl) ?_
              refine Rf_ 0 86 rfl rfl rfl rfl rfl _ trivial (Y.z (y_move rfl rfl) rfl) ?_
              refine Rf_ 1 87 rfl rfl rfl rfl rfl _ trivial (Y.z (y_move rfl rfl) rfl) ?_
              refine Rf_ 2 88 rfl rfl rfl rfl rfl _ trivial (Y.z (y_move rfl rfl) rfl) ?_
              refine Rf_ 3 89 rfl rfl rfl rfl rfl _ trivial (Y.z (y_indexAddrI (j := n) rfl rfl rfl (fun _ => by omega) Tryd.underlying28 sz86 (fun hg => hmt.isSome (by omega)) (fun _ => by omega)) rfl) ?_
              refine Rf_ 4 90 rfl rfl rfl rfl rfl _ trivial (Y.z (y_fieldEl rfl rfl hmt.rd (fun _ => by omega) fa86_0) rfl) ?_
              refine Rf_ 5 91 rfl rfl rfl rfl rfl _ trivial (Y.z (y_load_fT rfl rfl hmt (fun _ => rfl) (fun _ => hm) rfl Tryd.underlying9 rfl) rfl) ?_
              refine Rf_ 6 92 rfl rfl rfl rfl rfl _ trivial (Y.z (y_fieldAddr rfl rfl fa46_0) rfl) ?_
              refine Rf_ 7 93 rfl rfl rfl rfl rfl _ ⟨rfl, trivial⟩ (Y.z (y_load 17 rfl rfl rfl rfl Tryd.underlying9 rfl) rfl) ?_
              refine Rf_ 8 94 rfl rfl rfl rfl rfl _ trivial (Y.z (y_fieldAddr rfl rfl fa46_1) rfl) ?_
              refine Rf_ 9 95 rfl rfl rfl rfl rfl _ ⟨rfl, trivial⟩ (Y.z (y_load 17 rfl rfl rfl rfl Tryd.underlying9 rfl) rfl) ?_
              refine Rf_ 10 96 rfl rfl rfl rfl rfl _ trivial (Y.z (y_fieldAddr rfl rfl fa46_2) rfl) ?_
              refine Rf_ 11 97 rfl rfl rfl rfl rfl _ ⟨rfl, trivial⟩ (Y.z (y_load 17 rfl rfl rfl rfl Tryd.underlying3 rfl) rfl) ?_
              refine Rf_ 12 98 rfl rfl rfl rfl rfl _ trivial (Y.z (y_fieldAddr rfl rfl fa67_4) rfl) ?_
              refine Rf_ 13 99 rfl rfl rfl rfl rfl _ ⟨rfl, trivial⟩ (Y.z (y_load 10 rfl rfl rfl rfl Tryd.underlying3 rfl) rfl) ?_
              refine Rf_ 14 100 rfl rfl rfl rfl rfl _ trivial (Y.z (y_fieldAddr rfl rfl fa67_5) rfl) ?_
              refine Rf_ 15 101 rfl rfl rfl rfl rfl _ ⟨rfl, trivial⟩ (Y.z (y_load 10 rfl rfl rfl rfl Tryd.underlying4 rfl) rfl) ?_
              refine Rf_ 16 102 rfl rfl rfl rfl rfl _ trivial (Y.z (y_build (zv := .agg #[.string ⟨#[]⟩, .string ⟨#[]⟩, .string ⟨#[]⟩, .int .i64 0, .int .i64 0, .bool false]) (pl := [(0, 1), (1, 1), (2, 1), (3, 1), (4, 1), (5, 1)]) (out := [_, _, _, _, _, _]) rfl rfl Tryd.underlying67 z67 (by kernel_rfl) rfl) rfl) ?_
              refine R_chain 17 rfl rfl ?_
              refine S_buildSlice 103 103 rfl rfl rfl rfl rfl Tryd.underlying57 inf67 rfl (by decide) (by decide) rfl rfl (by decide) rfl (_) rfl ?_
              intro b103
              refine R_next ⟨.inl rfl, .inl rfl, .inl rfl, .inl rfl, .inl rfl, trivial⟩ ?_
              refine R_chain 18 rfl rfl ?_
              obtain ⟨i104, hi104, hz104, hs104, hy104⟩ := info_parts inf67
              refine S_append 104 8 103 rfl rfl rfl rfl rfl rfl rfl rfl Tryd.underlying57 hi104 hz104 hs104 hy104 rfl (by decide) (by decide) rfl ?_ ?_ (q2 + 1) ((o2 ++ [mkFrm f m.name s]).flatMap Frm.enc) ?_ ?_ ?_
              · (simp only [maxLen]; omega)
              · omega
              · rfl
              · simp [List.flatMap_append, Frm.enc, mkFrm]; rfl
              intro A104 c104
              refine R_next ⟨.inl rfl, .inl rfl, .inl rfl, .inl rfl, .inl rfl, trivial⟩ ?_
              refine Rf_ 19 8 rfl rfl rfl rfl rfl _ trivial (Y.z (y_assign rfl rfl) rfl) ?_
              refine R_go (fun _ _ h => h) ?_
              refine T_region ?_
              refine S_ 105 rfl rfl rfl _ (y_bin rfl rfl rfl (fun hg => b_add (by omega))) ?_
              refine S_ 82 rfl rfl rfl _ (y_move rfl rfl) ?_
              refine S_nil (nextK5 (kf := [(8, 8), (17, 17), (82, 105)]) (kl := [(8, 8), (17, 17), (82, 105)]) (j + 1) (o2 ++ [mkFrm f m.name s]) (q2 + 1) A104 c104 (by repeat (first | exact kf_nil | (apply kf_in; focus rfl) | (apply kf_out; focus rfl))) (by repeat (first | exact kl_nil | exact kl_rest (by assumption) rfl | (apply kl_in; focus rfl) | (apply kl_out; focus rfl))) ?_ ?_ ?_ ?_)
              · omega
              · exact ⟨by omega, by omega, by simp [hr3], by rw [← hr4, hs2, List.map_cons, List.append_assoc]; rfl⟩
              · exact ⟨rfl, rfl, trivial⟩
              · exact ⟨rfl, trivial⟩
            · try simp only [decide_eq_true_eq, decide_eq_false_iff_not, Bool.or_eq_true, Bool.or_eq_false_iff, Bool.and_eq_true, Bool.and_eq_false_iff, Bool.not_eq_true', Bool.not_eq_false', Bool.not_eq_true, Bool.not_eq_false, Bool.not_true, Bool.not_false, Int.not_lt, Int.not_le, not_or, not_and, Classical.not_not] at h83
              refine T_exit_go (fun _ _ h => h) ?_
              refine T_region ?_
              refine S_ 106 rfl rfl rfl _ (y_bin rfl rfl rfl (fun hg => b_add (by omega))) ?_
              refine S_ 20 rfl rfl rfl _ (y_move rfl rfl) ?_
              refine S_nil (nextK5 (kf := [(8, 15), (17, 17), (20, 106)]) (kl := [(8, 15), (17, 17), (20, 106)]) (i + 1) o2 q2 A2 c2 (by repeat (first | exact kf_nil | (apply kf_in; focus rfl) | (apply kf_out; focus rfl))) (by repeat (first | exact kl_nil | exact kl_rest (by assumption) rfl | (apply kl_in; focus rfl) | (apply kl_out; focus rfl))) ?_ ?_ ?_ ?_)
              · omega
              · exact ⟨by omega, by omega, hr3, by rw [hp4, hx2, resAll, ← List.append_assoc, ← hr4, List.drop_eq_nil_of_le (by omega), List.map_nil, List.append_nil, show decide (((i + 1 : Nat) : Int) = 0) = false from decide_eq_false (by omega)]⟩
              · exact ⟨rfl, rfl, trivial⟩
              · exact ⟨rfl, trivial⟩
          · try simp only [decide_eq_true_eq, decide_eq_false_iff_not, Bool.or_eq_true, Bool.or_eq_false_iff, Bool.and_eq_true, Bool.and_eq_false_iff, Bool.not_eq_true', Bool.not_eq_false', Bool.not_eq_true, Bool.not_eq_false, Bool.not_true, Bool.not_false, Int.not_lt, Int.not_le, not_or, not_and, Classical.not_not] at h75
            refine T_skip_go (fun _ _ h => h) ?_
            refine T_seq ?_
            refine T_region ?_
            refine S_ 80 rfl rfl rfl _ (y_move rfl rfl) ?_
            refine S_ 81 rfl rfl rfl _ (y_len_slice rfl rfl Tryd.underlying42) ?_
            refine S_ 82 rfl rfl rfl _ (y_move rfl rfl) ?_
            refine S_go (fun _ _ h => h) ?_
            refine T_block ?_
            refine T_loopK5 (kf := [(8, 8), (17, 17), (82, 105)]) (kl := [(8, 8), (17, 17), (82, 105)]) (fun (j : Nat) (o2 : List Frm) (q2 : Nat) (A2 : Option Addr) (c2 : Nat) => [(82, true, .int .i64 (j : Int)), (8, true, .slice A2 q2 c2)]) (fun (j : Nat) (o2 : List Frm) (q2 : Nat) (A2 : Option Addr) (c2 : Nat) => [(8, .own 67 6 (.slice A2 q2 c2) q2 (o2.flatMap Frm.enc))]) (fun (j : Nat) (o2 : List Frm) (q2 : Nat) (A2 : Option Addr) (c2 : Nat) => j ≤ (plOf f.ad (decide ((i : Int) = 0)) ms.l ts.l).1.length ∧ q2 ≤ i * 1002 + 1 + j ∧ o2.length = q2 ∧ o2 ++ ((plOf f.ad (decide ((i : Int) = 0)) ms.l ts.l).1.drop j).map (mkFrm f m.name) = out ++ resOf (decide ((i : Int) = 0)) f ms.l ts.l) (fun (j : Nat) (o2 : List Frm) (q2 : Nat) (A2 : Option Addr) (c2 : Nat) => (plOf f.ad (decide ((i : Int) = 0)) ms.l ts.l).1.length - j) 0 out q A c (by repeat (first | exact kf_nil | (apply kf_in; focus rfl) | (apply kf_out; focus rfl))) (by repeat (first | exact kl_nil | exact kl_rest (by assumption) rfl | (apply kl_in; focus rfl) | (apply kl_out; focus rfl))) ?_ ?_ ?_ ?_
            · exact ⟨by omega, by omega, hp3, by rw [resOf, if_neg (by omega), List.drop_zero, hnm (by omega)]⟩
            · exact ⟨rfl, rfl, trivial⟩
            · exact ⟨rfl, trivial⟩
            rintro j o2 q2 A2 c2 ⟨hr1, hr2, hr3, hr4⟩
            refine T_seq ?_
            refine T_region ?_
            refine S_ 83 rfl rfl rfl _ (y_bin rfl rfl rfl (fun _ => b_lss)) ?_
            refine S_go (fun _ _ h => h) ?_
            refine T_seq ?_
            refine T_cond rfl (fun h83 => ?_) (fun h83 => ?_)
            · try simp only [decide_eq_true_eq, decide_eq_false_iff_not, Bool.or_eq_true, Bool.or_eq_false_iff, Bool.and_eq_true, Bool.and_eq_false_iff, Bool.not_eq_true', Bool.not_eq_false', Bool.not_eq_true, Bool.not_eq_false, Bool.not_true, Bool.not_false, Int.not_lt, Int.not_le, not_or, not_and, Classical.not_not] at h83
              obtain ⟨s, hs1, hs2⟩ := at_lt (l := (plOf f.ad (decide ((i : Int) = 0)) ms.l ts.l).1) (i := j) (by omega)
              refine T_skip_go (fun _ _ h => h) ?_
              refine T_seq ?_
              refine T_block ?_
              refine T_seq ?_
              refine T_region ?_
              refine S_ 84 rfl rfl rfl _ (y_indexOwn 70 rfl rfl rfl rfl Tryd.underlying42 sz46 (fun _ => by omega)) ?_
              refine S_ 85 rfl rfl rfl _ (y_loadO 70 rfl rfl rfl rfl (fun _ => rfl) (fun _ => hs1) Tryd.underlying46 rfl sz46) ?_
              refine S_alloc 17 17 rfl rfl rfl rfl z46 ?_
              intro b17
              refine S_store 17 rfl rfl rfl rfl rfl rfl sz46 rfl rfl ?_
              refine S_go (fun _ _ h => h) ?_
              refine T_perm [0, 1, 2, 3, 4, 5, 6, 7, 8, 9, 10, 11, 12, 13, 14, 15, 16, 17, 18, 19] [true, true, true, true, true, true, true, true, true, true, true, true, true, true, true, true, true, false, false, true] [0, 0, 0, 6, 14, 30, 0, 64, 0, 256, 0, 1024, 0, 4096, 0, 16384, 65534, 131070, 262143, 524287] [(7, [17]), (9, [17]), (11, [17]), (13, [10]), (15, [10])] (by kernel_rfl) (by kernel_rfl) (by kernel_rfl) rfl (by kernel_rfl) ?_
              refine Rf_ 0 86 rfl rfl rfl rfl rfl _ trivial (Y.z (y_move rfl rfl) rfl) ?_
              refine Rf_ 1 87 rfl rfl rfl rfl rfl _ trivial (Y.z (y_move rfl rfl) rfl) ?_
              refine Rf_ 2 88 rfl rfl rfl rfl rfl _ trivial (Y.z (y_move rfl rfl) rfl) ?_
              refine Rf_ 3 89 rfl rfl rfl rfl rfl _ trivial (Y.z (y_indexAddrI (j := n) rfl rfl rfl (fun _ => by omega) Tryd.underlying28 sz86 (fun hg => hmt.isSome (by omega)) (fun _ => by omega)) rfl) ?_
              refine Rf_ 4 90 rfl rfl rfl rfl rfl _ trivial (Y.z (y_fieldEl rfl rfl hmt.rd (fun _ => by omega) fa86_0) rfl) ?_
              refine Rf_ 5 91 rfl rfl rfl rfl rfl _ trivial (Y.z (y_load_fT rfl rfl hmt (fun _ => rfl) (fun _ => hm) rfl Tryd.underlying9 rfl) rfl) ?_
              refine Rf_ 6 92 rfl rfl rfl rfl rfl _ trivial (Y.z (y_fieldAddr rfl rfl fa46_0) rfl) ?_
              refine Rf_ 7 93 rfl rfl rfl rfl rfl _ ⟨rfl, trivial⟩ (Y.z (y_load 17 rfl rfl rfl rfl Tryd.underlying9 rfl) rfl) ?_
              refine Rf_ 8 94 rfl rfl rfl rfl rfl _ trivial (Y.z (y_fieldAddr rfl rfl fa46_1) rfl) ?_
              refine Rf_ 9 95 rfl rfl rfl rfl rfl _ ⟨rfl, trivial⟩ (Y.z (y_load 17 rfl rfl rfl rfl Tryd.underlying9 rfl) rfl) ?_
              refine Rf_ 10 96 rfl rfl rfl rfl rfl _ trivial (Y.z (y_fieldAddr rfl rfl fa46_2) rfl) ?_
              refine Rf_ 11 97 rfl rfl rfl rfl rfl _ ⟨rfl, trivial⟩ (Y.z (y_load 17 rfl rfl rfl rfl Tryd.underlying3 rfl) rfl) ?_
              refine Rf_ 12 98 rfl rfl rfl rfl rfl _ trivial (Y.z (y_fieldAddr rfl rfl fa67_4) rfl) ?_
              refine Rf_ 13 99 rfl rfl rfl rfl rfl _ ⟨rfl, trivial⟩ (Y.z (y_load 10 rfl rfl rfl rfl Tryd.underlying3 rfl) rfl) ?_
              refine Rf_ 14 100 rfl rfl rfl rfl rfl _ trivial (Y.z (y_fieldAddr rfl rfl fa67_5) rfl) ?_
              refine Rf_ 15 101 rfl rfl rfl rfl rfl _ ⟨rfl, trivial⟩ (Y.z (y_load 10 rfl rfl rfl rfl Tryd.underlying4 rfl) rfl) ?_
              refine Rf_ 16 102 rfl rfl rfl rfl rfl _ trivial (Y.z (y_build (zv := .agg #[.string ⟨#[]⟩, .string ⟨#[]⟩, .string ⟨#[]⟩, .int .i64 0, .int .i64 0, .bool false]) (pl := [(0, 1), (1, 1), (2, 1), (3, 1), (4, 1), (5, 1)]) (out := [_, _, _, _, _, _]) rfl rfl Tryd.underlying67 z67 (by kernel_rfl) rfl) rfl) ?_
              refine R_chain 17 rfl rfl ?_
              refine S_buildSlice 103 103 rfl rfl rfl rfl rfl Tryd.underlying57 inf67 rfl (by decide) (by decide) rfl rfl (by decide) rfl (_) rfl ?_
              intro b103
              refine R_next ⟨.inl rfl, .inl rfl, .inl rfl, .inl rfl, .inl rfl, trivial⟩ ?_
              refine R_chain 18 rfl rfl ?_
              obtain ⟨i104, hi104, hz104, hs104, hy104⟩ := info_parts inf67
              refine S_append 104 8 103 rfl rfl rfl rfl rfl rfl rfl rfl Tryd.underlying57 hi104 hz104 hs104 hy104 rfl (by decide) (by decide) rfl ?_ ?_ (q2 + 1) ((o2 ++ [mkFrm f m.name s]).flatMap Frm.enc) ?_ ?_ ?_
              · (simp only [maxLen]; omega)
              · omega
              · rfl
              · simp [List.flatMap_append, Frm.enc, mkFrm]; rfl
              intro A104 c104
              refine R_next ⟨.inl rfl, .inl rfl, .inl rfl, .inl rfl, .inl rfl, trivial⟩ ?_
              refine Rf_ 19 8 rfl rfl rfl rfl rfl _ trivial (Y.z (y_assign rfl rfl) rfl) ?_
              refine R_go (fun _ _ h => h) ?_
              refine T_region ?_
              refine S_ 105 rfl rfl rfl _ (y_bin rfl rfl rfl (fun hg => b_add (by omega))) ?_
              refine S_ 82 rfl rfl rfl _ (y_move rfl rfl) ?_
              refine S_nil (nextK5 (kf := [(8, 8), (17, 17), (82, 105)]) (kl := [(8, 8), (17, 17), (82, 105)]) (j + 1) (o2 ++ [mkFrm f m.name s]) (q2 + 1) A104 c104 (by repeat (first | exact kf_nil | (apply kf_in; focus rfl) | (apply kf_out; focus rfl))) (by repeat (first | exact kl_nil | exact kl_rest (by assumption) rfl | (apply kl_in; focus rfl) | (apply kl_out; focus rfl))) ?_ ?_ ?_ ?_)
              · omega
              · exact ⟨by omega, by omega, by simp [hr3], by rw [← hr4, hs2, List.map_cons, List.append_assoc]; rfl⟩
              · exact ⟨rfl, rfl, trivial⟩
              · exact ⟨rfl, trivial⟩
            · try simp only [decide_eq_true_eq, decide_eq_false_iff_not, Bool.or_eq_true, Bool.or_eq_false_iff, Bool.and_eq_true, Bool.and_eq_false_iff, Bool.not_eq_true', Bool.not_eq_false', Bool.not_eq_true, Bool.not_eq_false, Bool.not_true, Bool.not_false, Int.not_lt, Int.not_le, not_or, not_and, Classical.not_not] at h83
              refine T_exit_go (fun _ _ h => h) ?_
              refine T_region ?_
              refine S_ 106 rfl rfl rfl _ (y_bin rfl rfl rfl (fun hg => b_add (by omega))) ?_
              refine S_ 20 rfl rfl rfl _ (y_move rfl rfl) ?_
              refine S_nil (nextK5 (kf := [(8, 15), (17, 17), (20, 106)]) (kl := [(8, 15), (17, 17), (20, 106)]) (i + 1) o2 q2 A2 c2 (by repeat (first | exact kf_nil | (apply kf_in; focus rfl) | (apply kf_out; focus rfl))) (by repeat (first | exact kl_nil | exact kl_rest (by assumption) rfl | (apply kl_in; focus rfl) | (apply kl_out; focus rfl))) ?_ ?_ ?_ ?_)
              · omega
              · exact ⟨by omega, by omega, hr3, by rw [hp4, hx2, resAll, ← List.append_assoc, ← hr4, List.drop_eq_nil_of_le (by omega), List.map_nil, List.append_nil, show decide (((i + 1 : Nat) : Int) = 0) = false from decide_eq_false (by omega)]⟩
              · exact ⟨rfl, rfl, trivial⟩
              · exact ⟨rfl, trivial⟩
      · try simp only [decide_eq_true_eq, decide_eq_false_iff_not, Bool.or_eq_true, Bool.or_eq_false_iff, Bool.and_eq_true, Bool.and_eq_false_iff, Bool.not_eq_true', Bool.not_eq_false', Bool.not_eq_true, Bool.not_eq_false, Bool.not_true, Bool.not_false, Int.not_lt, Int.not_le, not_or, not_and, Classical.not_not] at h47
        have hpe := plOf_notab (first := decide ((i : Int) = 0)) (ts := ts.l) hc38.2 hc38.1 e1 h47
        refine T_skip_go (fun _ _ h => h) ?_
        refine T_seq ?_
        refine T_seq ?_
        refine T_region ?_
        refine S_ 73 rfl rfl rfl _ (y_move rfl rfl) ?_
        refine S_ 74 rfl rfl rfl _ (y_len_slice rfl rfl Tryd.underlying42) ?_
        refine S_ 75 rfl rfl rfl _ (y_bin rfl rfl rfl (fun _ => b_eql)) ?_
        refine S_go (fun _ _ h => h) ?_
        refine T_cond rfl (fun h75 => ?_) (fun h75 => ?_)
        · skip
          refine T_region ?_
          refine S_ 76 rfl rfl rfl _ (y_move rfl rfl) ?_
          refine S_ 77 rfl rfl rfl _ (y_loadA 10 rfl rfl rfl Tryd.underlying67 rfl sz67) ?_
          refine S_buildSlice 78 78 rfl rfl rfl rfl rfl Tryd.underlying57 inf67 rfl (by decide) (by decide) rfl rfl (by decide) rfl (_) rfl ?_
          intro b78
          obtain ⟨i79, hi79, hz79, hs79, hy79⟩ := info_parts inf67
          refine S_append 79 8 78 rfl rfl rfl rfl rfl rfl rfl rfl Tryd.underlying57 hi79 hz79 hs79 hy79 rfl (by decide) (by decide) rfl ?_ ?_ (q + 1) ((out ++ [f]).flatMap Frm.enc) ?_ ?_ ?_
          · (simp only [maxLen]; omega)
          · omega
          · rfl
          · simp [List.flatMap_append, Frm.enc]; rfl
          intro A79 c79
          refine S_ 8 rfl rfl rfl _ (y_assign rfl rfl) ?_
          refine S_go (fun _ _ h => h) ?_
          refine T_seq ?_
          refine T_region ?_
          refine S_ 80 rfl rfl rfl _ (y_move rfl rfl) ?_
          refine S_ 81 rfl rfl rfl _ (y_len_slice rfl rfl Tryd.underlying42) ?_
          refine S_ 82 rfl rfl rfl _ (y_move rfl rfl) ?_
          refine S_go (fun _ _ h => h) ?_
          refine T_block ?_
          refine T_loopK5 (kf := [(8, 8), (17, 17), (82, 105)]) (kl := [(8, 8), (17, 17), (82, 105)]) (fun (j : Nat) (o2 : List Frm) (q2 : Nat) (A2 : Option Addr) (c2 : Nat) => [(82, true, .int .i64 (j : Int)), (8, true, .slice A2 q2 c2)]) (fun (j : Nat) (o2 : List Frm) (q2 : Nat) (A2 : Option Addr) (c2 : Nat) => [(8, .own 67 6 (.slice A2 q2 c2) q2 (o2.flatMap Frm.enc))]) (fun (j : Nat) (o2 : List Frm) (q2 : Nat) (A2 : Option Addr) (c2 : Nat) => q2 ≤ i * 1002 + 1 ∧ o2.length = q2 ∧ o2 = out ++ resOf (decide ((i : Int) = 0)) f ms.l ts.l) (fun (j : Nat) (o2 : List Frm) (q2 : Nat) (A2 : Option Addr) (c2 : Nat) => 0) 0 (out ++ [f]) (q + 1) A79 c79 (by repeat (first | exact kf_nil | (apply kf_in; focus rfl) | (apply kf_out; focus rfl))) (by repeat (first | exact kl_nil | exact kl_rest (by assumption) rfl | (apply kl_in; focus rfl) | (apply kl_out; focus rfl))) ?_ ?_ ?_ ?_
          · exact ⟨by omega, by simp [hp3], by rw [resOf, hpe]; rfl⟩
          · exact ⟨rfl, rfl, trivial⟩
          · exact ⟨rfl, trivial⟩
          rintro j o2 q2 A2 c2 ⟨hr2, hr3, hr4⟩
          refine T_seq ?_
          refine T_region ?_
          refine S_ 83 rfl rfl rfl _ (y_bin rfl rfl rfl (fun _ => b_lss)) ?_
          refine S_go (fun _ _ h => h) ?_
          refine T_seq ?_
          refine T_cond rfl (fun h83 => ?_) (fun h83 => ?_)
          · skip
            have h83a := of_decide_eq_true h83
            omega
          · skip
            refine T_exit_go (fun _ _ h => h) ?_
            refine T_region ?_
            refine S_ 106 rfl rfl rfl _ (y_bin rfl rfl rfl (fun hg => b_add (by omega))) ?_
            refine S_ 20 rfl rfl rfl _ (y_move rfl rfl) ?_
            refine S_nil (nextK5 (kf := [(8, 15), (17, 17), (20, 106)]) (kl := [(8, 15), (17, 17), (20, 106)]) (i + 1) o2 q2 A2 c2 (by repeat (first | exact kf_nil | (apply kf_in; focus rfl) | (apply kf_out; focus rfl))) (by repeat (first | exact kl_nil | exact kl_rest (by assumption) rfl | (apply kl_in; focus rfl) | (apply kl_out; focus rfl))) ?_ ?_ ?_ ?_)
            · omega
            · exact ⟨by omega, by omega, hr3, by rw [hp4, hx2, resAll, ← List.append_assoc, ← hr4, show decide (((i + 1 : Nat) : Int) = 0) = false from decide_eq_false (by omega)]⟩
            · exact ⟨rfl, rfl, trivial⟩
            · exact ⟨rfl, trivial⟩
        · skip
          simp at h75
    · skip
      have hc38 : ¬ (0 ≤ findI (SMod.has f.ad) ms.l 0 ∧ 0 ≤ f.ad) := fun hh => by simp [hh.1, hh.2] at h38
      have hpe := plOf_none (first := decide ((i : Int) = 0)) (ts := ts.l) hfa hc38
      refine T_skip_go (fun _ _ h => h) ?_
      refine T_seq ?_
      refine T_seq ?_
      refine T_region ?_
      refine S_ 73 rfl rfl rfl _ (y_move rfl rfl) ?_
      refine S_ 74 rfl rfl rfl _ (y_len_slice rfl rfl Tryd.underlying42) ?_
      refine S_ 75 rfl rfl rfl _ (y_bin rfl rfl rfl (fun _ => b_eql)) ?_
      refine S_go (fun _ _ h => h) ?_
      refine T_cond rfl (fun h75 => ?_) (fun h75 => ?_)
      · skip
        refine T_region ?_
        refine S_ 76 rfl rfl rfl _ (y_move rfl rfl) ?_
        refine S_ 77 rfl rfl rfl _ (y_loadA 10 rfl rfl rfl Tryd.underlying67 rfl sz67) ?_
        refine S_buildSlice 78 78 rfl rfl rfl rfl rfl Tryd.underlying57 inf67 rfl (by decide) (by decide) rfl rfl (by decide) rfl (_) rfl ?_
        intro b78
        obtain ⟨i79, hi79, hz79, hs79, hy79⟩ := info_parts inf67
        refine S_append 79 8 78 rfl rfl rfl rfl rfl rfl rfl rfl Tryd.underlying57 hi79 hz79 hs79 hy79 rfl (by decide) (by decide) rfl ?_ ?_ (q + 1) ((out ++ [f]).flatMap Frm.enc) ?_ ?_ ?_
        · (simp only [maxLen]; omega)
        · omega
        · rfl
        · simp [List.flatMap_append, Frm.enc]; rfl
        intro A79 c79
        refine S_ 8 rfl rfl rfl _ (y_assign rfl rfl) ?_
        refine S_go (fun _ _ h => h) ?_
        refine T_seq ?_
        refine T_region ?_
        refine S_ 80 rfl rfl rfl _ (y_move rfl rfl) ?_
        refine S_ 81 rfl rfl rfl _ (y_len_slice rfl rfl Tryd.underlying42) ?_
        refine S_ 82 rfl rfl rfl _ (y_move rfl rfl) ?_
        refine S_go (fun _ _ h => h) ?_
        refine T_block ?_
        refine T_loopK5 (kf := [(8, 8), (17, 17), (82, 105)]) (kl := [(8, 8), (17, 17), (82, 105)]) (fun (j : Nat) (o2 : List Frm) (q2 : Nat) (A2 : Option Addr) (c2 : Nat) => [(82, true, .int .i64 (j : Int)), (8, true, .slice A2 q2 c2)]) (fun (j : Nat) (o2 : List Frm) (q2 : Nat) (A2 : Option Addr) (c2 : Nat) => [(8, .own 67 6 (.slice A2 q2 c2) q2 (o2.flatMap Frm.enc))]) (fun (j : Nat) (o2 : List Frm) (q2 : Nat) (A2 : Option Addr) (c2 : Nat) => q2 ≤ i * 1002 + 1 ∧ o2.length = q2 ∧ o2 = out ++ resOf (decide ((i : Int) = 0)) f ms.l ts.l) (fun (j : Nat) (o2 : List Frm) (q2 : Nat) (A2 : Option Addr) (c2 : Nat) => 0) 0 (out ++ [f]) (q + 1) A79 c79 (by repeat (first | exact kf_nil | (apply kf_in; focus rfl) | (apply kf_out; focus rfl))) (by repeat (first | exact kl_nil | exact kl_rest (by assumption) rfl | (apply kl_in; focus rfl) | (apply kl_out; focus rfl))) ?_ ?_ ?_ ?_
        · exact ⟨by omega, by simp [hp3], by rw [resOf, hpe]; rfl⟩
        · exact ⟨rfl, rfl, trivial⟩
        · exact ⟨rfl, trivial⟩
        rintro j o2 q2 A2 c2 ⟨hr2, hr3, hr4⟩
        refine T_seq ?_
        refine T_region ?_
        refine S_ 83 rfl rfl rfl _ (y_bin rfl rfl rfl (fun _ => b_lss)) ?_
        refine S_go (fun _ _ h => h) ?_
        refine T_seq ?_
        refine T_cond rfl (fun h83 => ?_) (fun h83 => ?_)
        · skip
          have h83a := of_decide_eq_true h83
          omega
        · skip
          refine T_exit_go (fun _ _ h => h) ?_
          refine T_region ?_
          refine S_ 106 rfl rfl rfl _ (y_bin rfl rfl rfl (fun hg => b_add (by omega))) ?_
          refine S_ 20 rfl rfl rfl _ (y_move rfl rfl) ?_
          refine S_nil (nextK5 (kf := [(8, 15), (17, 17), (20, 106)]) (kl := [(8, 15), (17, 17), (20, 106)]) (i + 1) o2 q2 A2 c2 (by repeat (first | exact kf_nil | (apply kf_in; focus rfl) | (apply kf_out; focus rfl))) (by repeat (first | exact kl_nil | exact kl_rest (by assumption) rfl | (apply kl_in; focus rfl) | (apply kl_out; focus rfl))) ?_ ?_ ?_ ?_)
          · omega
          · exact ⟨by omega, by omega, hr3, by rw [hp4, hx2, resAll, ← List.append_assoc, ← hr4, show decide (((i + 1 : Nat) : Int) = 0) = false from decide_eq_false (by omega)]⟩
          · exact ⟨rfl, rfl, trivial⟩
          · exact ⟨rfl, trivial⟩
      · skip
        simp at h75
  · try simp only [decide_eq_true_eq, decide_eq_false_iff_not, Bool.or_eq_true, Bool.or_eq_false_iff, Bool.and_eq_true, Bool.and_eq_false_iff, Bool.not_eq_true', Bool.not_eq_false', Bool.not_eq_true, Bool.not_eq_false, Bool.not_true, Bool.not_false, Int.not_lt, Int.not_le, not_or, not_and, Classical.not_not] at h21
    refine T_exit_go (fun _ _ h => h) ?_
    refine T_seq ?_
    refine T_seq ?_
    refine T_region ?_
    refine S_ 107 rfl rfl rfl _ (y_move rfl rfl) ?_
    refine S_ 108 rfl rfl rfl _ (y_len_slice rfl rfl Tryd.underlying57) ?_
    refine S_ 109 rfl rfl rfl _ (y_bin rfl rfl rfl (fun _ => b_gtr)) ?_
    refine S_go (fun _ _ h => h) ?_
    refine T_cond rfl (fun h109 => ?_) (fun h109 => ?_)
    · try simp only [decide_eq_true_eq, decide_eq_false_iff_not, Bool.or_eq_true, Bool.or_eq_false_iff, Bool.and_eq_true, Bool.and_eq_false_iff, Bool.not_eq_true', Bool.not_eq_false', Bool.not_eq_true, Bool.not_eq_false, Bool.not_true, Bool.not_false, Int.not_lt, Int.not_le, not_or, not_and, Classical.not_not] at h109
      refine T_seq ?_
      refine T_region ?_
      refine S_nilSlice 6 (e := 67) (size := 6) ?_
      refine S_ 6 rfl rfl rfl _ (y_assign rfl rfl) ?_
      refine S_ 7 rfl rfl rfl _ (y_assign rfl rfl) ?_
      refine S_go (fun _ _ h => h) ?_
      refine T_ret (fun a w hF hM => hRb a w (post2 rfl rfl rfl (fun w hM => ?_) a w hF hM))
      have e2 : resAll ms.l ts.l true fs.l = out := by rw [hp4, hft.end (by omega)]; simp [resAll]
      have e1 : resNo fs ms ts = 4 := fst_b ha (if_pos (by rw [e2]; omega))
      have e : resOut fs ms ts = [] := if_neg (by rw [e1]; decide)
      rw [e, e1]
      exact ⟨none, 0, rfl, hM.sat 6 _ rfl, hM.below⟩
    · try simp only [decide_eq_true_eq, decide_eq_false_iff_not, Bool.or_eq_true, Bool.or_eq_false_iff, Bool.and_eq_true, Bool.and_eq_false_iff, Bool.not_eq_true', Bool.not_eq_false', Bool.not_eq_true, Bool.not_eq_false, Bool.not_true, Bool.not_false, Int.not_lt, Int.not_le, not_or, not_and, Classical.not_not] at h109
      refine T_skip_go (fun _ _ h => h) ?_
      refine T_seq ?_
      refine T_region ?_
      refine S_ 110 rfl rfl rfl _ (y_move rfl rfl) ?_
      refine S_ 6 rfl rfl rfl _ (y_assign rfl rfl) ?_
      refine S_ 7 rfl rfl rfl _ (y_assign rfl rfl) ?_
      refine S_go (fun _ _ h => h) ?_
      refine T_ret (fun a w hF hM => hRb a w (post2 rfl rfl rfl (fun w hM => ?_) a w hF hM))
      have e2 : resAll ms.l ts.l true fs.l = out := by rw [hp4, hft.end (by omega)]; simp [resAll]
      have e1 : resNo fs ms ts = 0 := fst_b ha (if_neg (by rw [e2]; omega))
      have e : resOut fs ms ts = out := by rw [resOut, if_pos e1, e2]
      rw [e, e1, hp3]
      exact ⟨A, c, rfl, hM.sat 8 _ rfl, hM.below⟩
end Go.Proofs.YtofolhnecfkjkaaDoor
