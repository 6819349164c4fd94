/- The reference: PlacesAt. Condition: the table is right. -/
import Derived.Test.YtofolhnecfkjkaaDoorCat
import Derived.Test.YtofolhnecfkjkaaDoorRefPl
import Derived.Test.YtofolhnecfkjkaaDoorFlt
namespace Go.Proofs.YtofolhnecfkjkaaDoor
set_option linter.unusedSimpArgs false
set_option linter.unusedVariables false
set_option maxRecDepth 20000
open Go.RowKit Go.Eng
theorem T_known {P : Program} {w0 : World} {n : Nat} {c : Code} {F : FL} {L : HL} {Q : Exit → Act → World → Prop} {p : Prop} (h : ∀ w, Mem w0 L w → p) (hK : p → T P w0 n c F L Q) : T P w0 n c F L Q := fun a w hF hM => hK (h w hM) a w hF hM
theorem Concat2_any (A A1 A2 : Option Addr) (c c1 q2 c2 : Nat) (a b : SPlace) (qs : List SPlace) (w : World) (hl : SlT sls 1 w A 2 [⟨A1, 2, c1, [a, b]⟩, ⟨A2, q2, c2, qs⟩]) (h1 : Sl.Ok SPlace.enc 3 w ⟨A1, 2, c1, [a, b]⟩) (h2 : Sl.Ok SPlace.enc 3 w ⟨A2, q2, c2, qs⟩) (hq : q2 ≤ 10000) :
    Calls Tryd.prog 118 #[.slice A 2 c] w fun e w' => ∃ A' c', e = .returned (.slice A' (q2 + 2) c') ∧ w'.ownsRow w.heap.size 46 3 (.slice A' (q2 + 2) c') (q2 + 2) ((a :: b :: qs).flatMap SPlace.enc) ∧ Below w.heap.size w w' := by
  have h := Concat_any A 2 c _ w hl (by omega) (fun s hs => by
    rcases List.mem_cons.1 hs with rfl | hs
    · exact h1
    · rw [List.mem_singleton.1 hs]; exact h2) (by simp only [sumQ]; omega) (by simp only [sumQ]; omega)
  have e : catL [⟨A1, 2, c1, [a, b]⟩, ⟨A2, q2, c2, qs⟩] = a :: b :: qs := by simp [catL]
  have e2 : (a :: b :: qs).length = q2 + 2 := by
    have := h2.t.len
    simp only [List.length_cons]
    show qs.length + 1 + 1 = q2 + 2
    have : qs.length = q2 := this
    omega
  rw [e, e2] at h
  exact h
theorem cut_tail {w : World} {A : Option Addr} {q c : Nat} {p : SPlace} {qs : List SPlace} (h : Sl.Ok SPlace.enc 3 w ⟨A, q, c, p :: qs⟩) (hq : 1 ≤ q) : Sl.Ok SPlace.enc 3 w ⟨if c = 1 then A else A.map (·.add (1 * 3)), q - 1, c - 1, qs⟩ := by
  have hlen : qs.length + 1 = q := h.t.len
  have hcap : q ≤ c := h.cap
  have hc := h.t.cut (lo := 1) (hi := q) (fun _ => rfl) hq (Nat.le_refl _) hcap
  have e : ((p :: qs).drop 1).take (q - 1) = qs := by
    rw [List.drop_one, List.tail_cons]
    exact List.take_of_length_le (by omega)
  rw [e] at hc
  exact ⟨hc, by show q - 1 ≤ c - 1; omega⟩
def refAt (t : Tab) (x : Int) : List SPlace := if outB x 0 (t.size - 1) = true then [] else atOut t x
def refAtNo (t : Tab) (x : Int) : Int := if outB x 0 (t.size - 1) = true then 2 else if findI (SFunc.has x) t.fu.l 0 < 0 then 7 else 0
set_option maxHeartbeats 800000 in
theorem PlacesAt_any (t : Tab) (x : Int) (w : World) (hok : t.Ok w) (h0 : tabNo t = 0) :
    Calls Tryd.prog 79 #[.agg #[str t.id, .int .i64 t.size, .slice t.fi.A t.fi.q t.fi.c, .slice t.fu.A t.fu.q t.fu.c, .slice t.ro.A t.ro.q t.ro.c, .slice t.ca.A t.ca.q t.ca.c], .int .i64 x] w fun e w' => ∃ A c, e = .returned (.tuple #[.slice A (refAt t x).length c, .int .i64 (refAtNo t x)]) ∧
      w'.ownsRow w.heap.size 46 3 (.slice A (refAt t x).length c) (refAt t x).length ((refAt t x).flatMap SPlace.enc) ∧ Below w.heap.size w w' := by
  have hq := hok.small
  have hr := rows_of h0
  have hsz := size_of_out hr.1.2
  have hct := hok.ca.t
  have hrt := hok.ro.t
  have hf := hok.fi.t
  have hlf := hf.len
  have hall := calls_right _ _ _ (tab_calls h0)
  have hrall := (rows_right _ _ (tab_rows h0)).1
  refine enter_args (args := [.agg #[str t.id, .int .i64 t.size, .slice t.fi.A t.fi.q t.fi.c, .slice t.fu.A t.fu.q t.fu.c, .slice t.ro.A t.ro.q t.ro.c, .slice t.ca.A t.ca.q t.ca.c], .int .i64 x]) (F := _) Tryd.func79 rfl Tryd.ntmps79 rfl rfl ?_
  intro Rb hRb hRn
  refine T_seq ?_
  refine T_region ?_
  refine S_box 2 2 rfl rfl rfl rfl rfl ?_
  intro b2
  refine S_nilSlice 4 (e := 46) (size := 3) ?_
  refine S_ 4 rfl rfl rfl _ (y_assign rfl rfl) ?_
  refine S_ 5 rfl rfl rfl _ (y_assign rfl rfl) ?_
  refine S_go (fun _ _ h => h) ?_
  refine T_seq ?_
  refine T_seq ?_
  refine T_region ?_
  refine S_ 16 rfl rfl rfl _ (y_move rfl rfl) ?_
  refine S_ 17 rfl rfl rfl _ (y_fieldAddr rfl rfl fa27_1) ?_
  refine S_ 18 rfl rfl rfl _ (y_load 2 rfl rfl rfl rfl Tryd.underlying3 rfl) ?_
  refine S_ 19 rfl rfl rfl _ (y_bin rfl rfl rfl (fun hg => b_sub (by omega))) ?_
  refine S_ 20 rfl rfl rfl _ (y_call rfl rfl rfl cf50 (fun _ w _ => outB_any _ _ _ w)) ?_
  refine S_go (fun _ _ h => h) ?_
  refine T_cond rfl (fun h20 => ?_) (fun h20 => ?_)
  · skip
    refine T_seq ?_
    refine T_region ?_
    refine S_nilSlice 4 (e := 46) (size := 3) ?_
    refine S_ 4 rfl rfl rfl _ (y_assign rfl rfl) ?_
    refine S_ 5 rfl rfl rfl _ (y_assign rfl rfl) ?_
    refine S_go (fun _ _ h => h) ?_
    refine T_ret (fun a w hF hM => hRb a w (post2 rfl rfl rfl (fun w hM => ?_) a w hF hM))
    have e : refAt t x = [] := if_pos h20
    rw [e, refAtNo, if_pos h20]
    exact ⟨none, 0, rfl, hM.sat 4 _ rfl, hM.below⟩
  · skip
    refine T_skip_go (fun _ _ h => h) ?_
    refine T_seq ?_
    refine T_region ?_
    refine S_ 22 rfl rfl rfl _ (y_loadA 2 rfl rfl rfl Tryd.underlying27 rfl sz27) ?_
    refine S_ 23 rfl rfl rfl _ (y_move rfl rfl) ?_
    refine S_ 24 rfl rfl rfl _ (y_call rfl rfl rfl cf11 (fun _ w hM => FuncOf_any t x w (hok.below hM.below))) ?_
    refine S_ 21 rfl rfl rfl _ (y_move rfl rfl) ?_
    refine S_ 25 rfl rfl rfl _ (y_extract rfl rfl rfl) ?_
    refine S_ 26 rfl rfl rfl _ (y_extract rfl rfl rfl) ?_
    refine S_ 6 rfl rfl rfl _ (y_assign rfl rfl) ?_
    refine S_ 7 rfl rfl rfl _ (y_assign rfl rfl) ?_
    refine S_go (fun _ _ h => h) ?_
    refine T_seq ?_
    refine T_seq ?_
    refine T_region ?_
    refine S_ 27 rfl rfl rfl _ (y_move rfl rfl) ?_
    refine S_ 28 rfl rfl rfl _ (y_not rfl rfl) ?_
    refine S_go (fun _ _ h => h) ?_
    refine T_cond rfl (fun h28 => ?_) (fun h28 => ?_)
    · try simp only [decide_eq_true_eq, decide_eq_false_iff_not, Bool.or_eq_true, Bool.or_eq_false_iff, Bool.and_eq_true, Bool.and_eq_false_iff, Bool.not_eq_true', Bool.not_eq_false', Bool.not_eq_true, Bool.not_eq_false, Bool.not_true, Bool.not_false, Int.not_lt, Int.not_le, not_or, not_and, Classical.not_not] at h28
      refine T_seq ?_
      refine T_region ?_
      refine S_nilSlice 4 (e := 46) (size := 3) ?_
      refine S_ 4 rfl rfl rfl _ (y_assign rfl rfl) ?_
      refine S_ 5 rfl rfl rfl _ (y_assign rfl rfl) ?_
      refine S_go (fun _ _ h => h) ?_
      refine T_ret (fun a w hF hM => hRb a w (post2 rfl rfl rfl (fun w hM => ?_) a w hF hM))
      have e : refAt t x = [] := by rw [refAt, if_f h20, atOut]; exact if_pos h28
      rw [e, refAtNo, if_f h20, if_pos h28]
      exact ⟨none, 0, rfl, hM.sat 4 _ rfl, hM.below⟩
    · try simp only [decide_eq_true_eq, decide_eq_false_iff_not, Bool.or_eq_true, Bool.or_eq_false_iff, Bool.and_eq_true, Bool.and_eq_false_iff, Bool.not_eq_true', Bool.not_eq_false', Bool.not_eq_true, Bool.not_eq_false, Bool.not_true, Bool.not_false, Int.not_lt, Int.not_le, not_or, not_and, Classical.not_not] at h28
      obtain ⟨n, fn, hfi0, hfn, _⟩ := findI_at t.fu.l 0 (by omega) (by omega)
      have hif : (if findI (SFunc.has x) t.fu.l 0 < 0 then 0 else findI (SFunc.has x) t.fu.l 0) = (n : Int) := by rw [if_neg (by omega)]; omega
      have hnl := (List.getElem?_eq_some_iff.1 hfn).1
      have hfl := hok.fu.t.len
      have hge : t.fu.l.getD n ⟨[], 0, 0⟩ = fn := by simp [List.getD, hfn]
      refine T_skip_go (fun _ _ h => h) ?_
      refine T_seq ?_
      refine T_region ?_
      refine S_ 29 rfl rfl rfl _ (y_build (zv := .agg #[.string ⟨#[]⟩, .string ⟨#[]⟩, .int .i64 0]) (pl := [(0, 1), (1, 1), (2, 1)]) (out := [.string ⟨#[]⟩, .string ⟨#[]⟩, .int .i64 0]) rfl rfl Tryd.underlying46 z46 (by kernel_rfl) rfl) ?_
      refine S_alloc 8 8 rfl rfl rfl rfl z46 ?_
      intro b8
      refine S_store 8 rfl rfl rfl rfl rfl rfl sz46 rfl rfl ?_
      refine S_go (fun _ _ h => h) ?_
      refine T_seq ?_
      refine T_seq ?_
      refine T_region ?_
      refine S_ 30 rfl rfl rfl _ (y_fieldAddr rfl rfl fa27_4) ?_
      refine S_ 31 rfl rfl rfl _ (y_load 2 rfl rfl rfl rfl Tryd.underlying24 rfl) ?_
      refine S_ 32 rfl rfl rfl _ (y_len_slice rfl rfl Tryd.underlying24) ?_
      refine S_ 33 rfl rfl rfl _ (y_move rfl rfl) ?_
      refine S_go (fun _ _ h => h) ?_
      refine T_block ?_
      refine T_loopK2 (kf := [(10, 10), (33, 54)]) (kl := [(8, 8), (10, 10), (33, 54)]) (fun (i : Nat) (o : Option SRow) => [(33, true, .int .i64 (i : Int))]) (fun (i : Nat) (o : Option SRow) => [(8, .blk b8 (IsBox [str [], str (lineFile t.fi.l o), .int .i64 (lineLine o)] 46))]) (fun (i : Nat) (o : Option SRow) => i ≤ t.ro.q ∧ atRow x t.ro.l none = atRow x (t.ro.l.drop i) o) (fun (i : Nat) (o : Option SRow) => t.ro.q - i) 0 none (by repeat (first | exact kf_nil | (apply kf_in; focus rfl) | (apply kf_out; focus rfl))) (by repeat (first | exact kl_nil | exact kl_rest (by assumption) rfl | (apply kl_in; focus rfl) | (apply kl_out; focus rfl))) ?_ ?_ ?_ ?_
      · exact ⟨by omega, rfl⟩
      · exact ⟨rfl, trivial⟩
      · exact ⟨rfl, trivial⟩
      rintro i o ⟨hp1, hp2⟩
      refine T_seq ?_
      refine T_region ?_
      refine S_ 34 rfl rfl rfl _ (y_bin rfl rfl rfl (fun _ => b_lss)) ?_
      refine S_go (fun _ _ h => h) ?_
      refine T_seq ?_
      refine T_cond rfl (fun h34 => ?_) (fun h34 => ?_)
      · try simp only [decide_eq_true_eq, decide_eq_false_iff_not, Bool.or_eq_true, Bool.or_eq_false_iff, Bool.and_eq_true, Bool.and_eq_false_iff, Bool.not_eq_true', Bool.not_eq_false', Bool.not_eq_true, Bool.not_eq_false, Bool.not_true, Bool.not_false, Int.not_lt, Int.not_le, not_or, not_and, Classical.not_not] at h34
        obtain ⟨r, hx1, hx2⟩ := hrt.at (i := i) (by omega)
        have hfr := fi_of_row (hrall i r hx1).1
        refine T_skip_go (fun _ _ h => h) ?_
        refine T_seq ?_
        refine T_block ?_
        refine T_seq ?_
        refine T_region ?_
        refine S_ 35 rfl rfl rfl _ (y_indexAddr rfl rfl rfl Tryd.underlying24 sz98 (fun hg => hrt.isSome (by omega)) (fun _ => by omega)) ?_
        refine S_ 36 rfl rfl rfl _ (y_loadT rfl rfl hrt (fun _ => rfl) (fun _ => hx1) Tryd.underlying98 rfl sz98) ?_
        refine S_alloc 10 10 rfl rfl rfl rfl z98 ?_
        intro b10
        refine S_store 10 rfl rfl rfl rfl rfl rfl sz98 rfl rfl ?_
        refine S_go (fun _ _ h => h) ?_
        refine T_seq ?_
        refine T_seq ?_
        refine T_region ?_
        refine S_ 37 rfl rfl rfl _ (y_fieldAddr rfl rfl fa98_0) ?_
        refine S_ 38 rfl rfl rfl _ (y_load 10 rfl rfl rfl rfl Tryd.underlying3 rfl) ?_
        refine S_ 39 rfl rfl rfl _ (y_move rfl rfl) ?_
        refine S_ 40 rfl rfl rfl _ (y_bin rfl rfl rfl (fun _ => b_gtr)) ?_
        refine S_go (fun _ _ h => h) ?_
        refine T_cond rfl (fun h40 => ?_) (fun h40 => ?_)
        · try simp only [decide_eq_true_eq, decide_eq_false_iff_not, Bool.or_eq_true, Bool.or_eq_false_iff, Bool.and_eq_true, Bool.and_eq_false_iff, Bool.not_eq_true', Bool.not_eq_false', Bool.not_eq_true, Bool.not_eq_false, Bool.not_true, Bool.not_false, Int.not_lt, Int.not_le, not_or, not_and, Classical.not_not] at h40
          have hro : atRow x t.ro.l none = o := by rw [hp2, hx2, atRow, if_pos (by omega)]
          refine T_exit_go (fun _ _ h => h) ?_
          refine T_seq ?_
          refine T_region ?_
          refine S_ 55 rfl rfl rfl _ (y_fieldAddr rfl rfl fa27_3) ?_
          refine S_ 56 rfl rfl rfl _ (y_load 2 rfl rfl rfl rfl Tryd.underlying23 rfl) ?_
          refine S_ 57 rfl rfl rfl _ (y_move rfl rfl) ?_
          refine S_ 58 rfl rfl rfl _ (y_indexAddrI (j := n) rfl rfl rfl (fun _ => by omega) Tryd.underlying23 sz80 (fun hg => hok.fu.t.isSome (by omega)) (fun _ => by omega)) ?_
          refine S_ 59 rfl rfl rfl _ (y_fieldEl rfl rfl hok.fu.t.rd (fun _ => by omega) fa80_0) ?_
          refine S_ 60 rfl rfl rfl _ (y_load_fT rfl rfl hok.fu.t (fun _ => rfl) (fun _ => hfn) rfl Tryd.underlying9 rfl) ?_
          refine S_ 61 rfl rfl rfl _ (y_fieldAddr rfl rfl fa46_0) ?_
          refine S_store 8 rfl rfl rfl rfl rfl rfl sz9 rfl rfl ?_
          refine S_go (fun _ _ h => h) ?_
          refine T_seq ?_
          refine T_region ?_
          refine S_ 62 rfl rfl rfl _ (y_loadA 8 rfl rfl rfl Tryd.underlying46 rfl sz46) ?_
          refine S_buildSlice 63 63 rfl rfl rfl rfl rfl Tryd.underlying42 inf46 rfl (by decide) (by decide) rfl rfl (by decide) rfl (_) rfl ?_
          intro b63
          refine S_ 11 rfl rfl rfl _ (y_assign rfl rfl) ?_
          refine S_go (fun _ _ h => h) ?_
          refine T_seq ?_
          refine T_seq ?_
          refine T_region ?_
          refine S_ 64 rfl rfl rfl _ (y_fieldAddr rfl rfl fa27_5) ?_
          refine S_ 65 rfl rfl rfl _ (y_load 2 rfl rfl rfl rfl Tryd.underlying25 rfl) ?_
          refine S_ 66 rfl rfl rfl _ (y_len_slice rfl rfl Tryd.underlying25) ?_
          refine S_ 67 rfl rfl rfl _ (y_move rfl rfl) ?_
          refine S_go (fun _ _ h => h) ?_
          refine T_block ?_
          refine T_loopK6 (kf := [(11, 11), (13, 15), (67, 105)]) (kl := [(11, 11), (13, 15), (63, 63), (67, 105)]) (fun (j : Nat) (p : SPlace) (qs : List SPlace) (q : Nat) (A : Option Addr) (c : Nat) => [(67, true, .int .i64 (j : Int)), (11, true, .slice A q c)]) (fun (j : Nat) (p : SPlace) (qs : List SPlace) (q : Nat) (A : Option Addr) (c : Nat) => [(63, .own 46 3 (.slice A q c) q ((p :: qs).flatMap SPlace.enc))]) (fun (j : Nat) (p : SPlace) (qs : List SPlace) (q : Nat) (A : Option Addr) (c : Nat) => j ≤ t.ca.q ∧ q = qs.length + 1 ∧ q ≤ j + 1 ∧ refP x t.fi.l (t.ca.l.drop j) p qs = atOut t x) (fun (j : Nat) (p : SPlace) (qs : List SPlace) (q : Nat) (A : Option Addr) (c : Nat) => t.ca.q - j) 0 ⟨fn.name, lineFile t.fi.l o, lineLine o⟩ [] 1 (some ⟨b63, 0, none⟩) 1 (by repeat (first | exact kf_nil | (apply kf_in; focus rfl) | (apply kf_out; focus rfl))) (by repeat (first | exact kl_nil | exact kl_rest (by assumption) rfl | (apply kl_in; focus rfl) | (apply kl_out; focus rfl))) ?_ ?_ ?_ ?_
          · exact ⟨by omega, rfl, by omega, by have := refP_atOut (t := t) (x := x) (n := n) (by omega); rw [hge, hro] at this; exact this⟩
          · exact ⟨rfl, rfl, trivial⟩
          · exact ⟨rfl, trivial⟩
          rintro j p qs q A c ⟨hr1, hr2, hr3, hr4⟩
          refine T_seq ?_
          refine T_region ?_
          refine S_ 68 rfl rfl rfl _ (y_bin rfl rfl rfl (fun _ => b_lss)) ?_
          refine S_go (fun _ _ h => h) ?_
          refine T_seq ?_
          refine T_cond rfl (fun h68 => ?_) (fun h68 => ?_)
          · try simp only [decide_eq_true_eq, decide_eq_false_iff_not, Bool.or_eq_true, Bool.or_eq_false_iff, Bool.and_eq_true, Bool.and_eq_false_iff, Bool.not_eq_true', Bool.not_eq_false', Bool.not_eq_true, Bool.not_eq_false, Bool.not_true, Bool.not_false, Int.not_lt, Int.not_le, not_or, not_and, Classical.not_not] at h68
            obtain ⟨c0, hc1, hc2⟩ := hct.at (i := j) (by omega)
            obtain ⟨_, hb, _⟩ := hall j c0 hc1
            have hfi := fi_of_call hb
            have hfile := get_file (l := t.fi.l) (i := c0.fi.toNat) (by omega)
            refine T_skip_go (fun _ _ h => h) ?_
            refine T_seq ?_
            refine T_block ?_
            refine T_seq ?_
            refine T_region ?_
            refine S_ 69 rfl rfl rfl _ (y_indexAddr rfl rfl rfl Tryd.underlying25 sz110 (fun hg => hct.isSome (by omega)) (fun _ => by omega)) ?_
            refine S_ 70 rfl rfl rfl _ (y_loadT rfl rfl hct (fun _ => rfl) (fun _ => hc1) Tryd.underlying110 rfl sz110) ?_
            refine S_alloc 13 13 rfl rfl rfl rfl z110 ?_
            intro b13
            refine S_store 13 rfl rfl rfl rfl rfl rfl sz110 rfl rfl ?_
            refine S_go (fun _ _ h => h) ?_
            refine T_seq ?_
            refine T_seq ?_
            refine T_region ?_
            refine S_ 71 rfl rfl rfl _ (y_fieldAddr rfl rfl fa110_1) ?_
            refine S_ 72 rfl rfl rfl _ (y_load 13 rfl rfl rfl rfl Tryd.underlying3 rfl) ?_
            refine S_ 73 rfl rfl rfl _ (y_move rfl rfl) ?_
            refine S_ 74 rfl rfl rfl _ (y_bin rfl rfl rfl (fun _ => b_gtr)) ?_
            refine S_ 75 rfl rfl rfl _ (y_move rfl rfl) ?_
            refine Sg_ 76 rfl rfl rfl rfl rfl rfl _ (y_move rfl rfl) ?_
            refine Sg_ 77 rfl rfl rfl rfl rfl rfl _ (y_fieldAddr rfl rfl fa110_2) ?_
            refine Sg_ 78 rfl rfl rfl rfl rfl rfl _ (y_load 13 rfl rfl rfl rfl Tryd.underlying3 rfl) ?_
            refine Sg_ 79 rfl rfl rfl rfl rfl rfl _ (y_bin rfl rfl rfl (fun _ => b_geq)) ?_
            refine S_ 80 rfl rfl rfl _ (y_or rfl rfl rfl) ?_
            refine S_go (fun _ _ h => h) ?_
            refine T_cond rfl (fun h80 => ?_) (fun h80 => ?_)
            · skip
              have hno : c0.has x = false := by
                have h : x < c0.fr ∨ c0.to ≤ x := by simpa using h80
                simp only [SCall.has, Bool.and_eq_false_iff, decide_eq_false_iff_not]; omega
              refine T_exit_go (fun _ _ h => h) ?_
              refine T_region ?_
              refine S_ 105 rfl rfl rfl _ (y_bin rfl rfl rfl (fun hg => b_add (by omega))) ?_
              refine S_ 67 rfl rfl rfl _ (y_move rfl rfl) ?_
              refine S_nil (nextK6 (kf := [(11, 11), (13, 15), (67, 105)]) (kl := [(11, 11), (13, 15), (63, 63), (67, 105)]) (j + 1) p qs q A c (by repeat (first | exact kf_nil | (apply kf_in; focus rfl) | (apply kf_out; focus rfl))) (by repeat (first | exact kl_nil | exact kl_rest (by assumption) rfl | (apply kl_in; focus rfl) | (apply kl_out; focus rfl))) ?_ ?_ ?_ ?_)
              · omega
              · exact ⟨by omega, hr2, by omega, by rw [← hr4, hc2, refP, if_neg (by simp [hno])]⟩
              · exact ⟨rfl, rfl, trivial⟩
              · exact ⟨rfl, trivial⟩
            · skip
              have hyes : c0.has x = true := by simpa [SCall.has] using h80
              refine T_known (p := q ≤ c) (fun w hM => (own_ok2 (enc := SPlace.enc) (l := p :: qs) hM (by simp; omega) (i := 63) rfl).cap) (fun hcap => ?_)
              refine T_skip_go (fun _ _ h => h) ?_
              refine T_seq ?_
              refine T_region ?_
              refine S_ 81 rfl rfl rfl _ (y_move rfl rfl) ?_
              refine S_ 82 rfl rfl rfl _ (y_indexOwnI (j := 0) 63 rfl rfl rfl (fun _ => rfl) rfl Tryd.underlying42 sz46 (fun _ => by omega)) ?_
              refine S_ 83 rfl rfl rfl _ (y_loadO 63 rfl rfl rfl (by simp; omega : (p :: qs).length = q) (fun _ => rfl) (fun _ => rfl) Tryd.underlying46 rfl sz46) ?_
              refine S_alloc 14 14 rfl rfl rfl rfl z46 ?_
              intro b14
              refine S_store 14 rfl rfl rfl rfl rfl rfl sz46 rfl rfl ?_
              refine S_go (fun _ _ h => h) ?_
              refine T_seq ?_
              refine T_perm [0, 1, 2, 3, 4, 5, 6, 7, 8, 9, 10, 11, 12] [true, true, true, true, true, true, true, true, true, true, true, false, false] [0, 1, 0, 4, 0, 16, 60, 124, 0, 256, 1023, 0, 4095] [(1, [14]), (3, [2]), (5, [13]), (9, [13])] (by kernel_rfl) (by kernel_rfl) (by kernel_rfl) rfl (by kernel_rfl) ?_
              refine Rf_ 0 84 rfl rfl rfl rfl rfl _ trivial (Y.z (y_fieldAddr rfl rfl fa46_0) rfl) ?_
              refine Rf_ 1 85 rfl rfl rfl rfl rfl _ ⟨rfl, trivial⟩ (Y.z (y_load 14 rfl rfl rfl rfl Tryd.underlying9 rfl) rfl) ?_
              refine Rf_ 2 86 rfl rfl rfl rfl rfl _ trivial (Y.z (y_fieldAddr rfl rfl fa27_2) rfl) ?_
              refine Rf_ 3 87 rfl rfl rfl rfl rfl _ ⟨rfl, trivial⟩ (Y.z (y_load 2 rfl rfl rfl rfl Tryd.underlying22 rfl) rfl) ?_
              refine Rf_ 4 88 rfl rfl rfl rfl rfl _ trivial (Y.z (y_fieldAddr rfl rfl fa110_3) rfl) ?_
              refine Rf_ 5 89 rfl rfl rfl rfl rfl _ ⟨rfl, trivial⟩ (Y.z (y_load 13 rfl rfl rfl rfl Tryd.underlying3 rfl) rfl) ?_
              refine Rf_ 6 90 rfl rfl rfl rfl rfl _ trivial (Y.z (y_indexAddrI (j := c0.fi.toNat) rfl rfl rfl (fun _ => by omega) Tryd.underlying22 sz9 (fun hg => hf.isSome (by omega)) (fun _ => by omega)) rfl) ?_
              refine Rf_ 7 91 rfl rfl rfl rfl rfl _ trivial (Y.z (y_loadT1 (val := (fun l : List UInt8 => str l)) rfl rfl hf (fun _ => hfile) Tryd.underlying9 rfl) rfl) ?_
              refine Rf_ 8 92 rfl rfl rfl rfl rfl _ trivial (Y.z (y_fieldAddr rfl rfl fa110_4) rfl) ?_
              refine Rf_ 9 93 rfl rfl rfl rfl rfl _ ⟨rfl, trivial⟩ (Y.z (y_load 13 rfl rfl rfl rfl Tryd.underlying3 rfl) rfl) ?_
              refine Rf_ 10 94 rfl rfl rfl rfl rfl _ trivial (Y.z (y_build (zv := .agg #[.string ⟨#[]⟩, .string ⟨#[]⟩, .int .i64 0]) (pl := [(0, 1), (1, 1), (2, 1)]) (out := [_, _, _]) rfl rfl Tryd.underlying46 z46 (by kernel_rfl) rfl) rfl) ?_
              refine R_chain 11 rfl rfl ?_
              refine S_alloc 15 15 rfl rfl rfl rfl z46 ?_
              intro b15
              refine R_next ⟨.inr ⟨rfl, trivial⟩, .inr ⟨rfl, trivial⟩, .inr ⟨rfl, trivial⟩, .inr ⟨rfl, trivial⟩, trivial⟩ ?_
              refine R_chain 12 rfl rfl ?_
              refine S_store 15 rfl rfl rfl rfl rfl rfl sz46 rfl rfl ?_
              refine R_next ⟨.inl rfl, .inl rfl, .inl rfl, .inl rfl, trivial⟩ ?_
              refine R_go (fun _ _ h => h) ?_
              refine T_seq ?_
              refine T_region ?_
              refine S_ 95 rfl rfl rfl _ (y_fieldAddr rfl rfl fa110_0) ?_
              refine S_ 96 rfl rfl rfl _ (y_load 13 rfl rfl rfl rfl Tryd.underlying9 rfl) ?_
              refine S_ 97 rfl rfl rfl _ (y_fieldAddr rfl rfl fa46_0) ?_
              refine S_store 14 rfl rfl rfl rfl rfl rfl sz9 rfl rfl ?_
              refine S_go (fun _ _ h => h) ?_
              refine T_perm [0, 1, 3, 4, 2, 5, 6, 7] [true, true, false, true, true, false, false, true] [0, 0, 3, 0, 8, 31, 63, 127] [(0, [14]), (1, [15])] (by kernel_rfl) (by kernel_rfl) (by kernel_rfl) rfl (by kernel_rfl) ?_
              refine Rf_ 0 98 rfl rfl rfl rfl rfl _ ⟨rfl, trivial⟩ (Y.z (y_loadA 14 rfl rfl rfl Tryd.underlying46 rfl sz46) rfl) ?_
              refine Rf_ 1 99 rfl rfl rfl rfl rfl _ ⟨rfl, trivial⟩ (Y.z (y_loadA 15 rfl rfl rfl Tryd.underlying46 rfl sz46) rfl) ?_
              refine Rf_ 3 101 rfl rfl rfl rfl rfl _ trivial (Y.z (y_move rfl rfl) rfl) ?_
              refine Rf_ 4 102 rfl rfl rfl rfl rfl _ trivial (Y.z (y_slice rfl rfl Tryd.underlying42 sz46 (.inr ⟨_, _, rfl, rfl⟩) (.inl ⟨rfl, rfl⟩) (show 1 ≤ q by omega) (Nat.le_refl _) hcap) rfl) ?_
              refine R_chain 2 rfl rfl ?_
              refine S_buildSlice 100 100 rfl rfl rfl rfl rfl Tryd.underlying42 inf46 rfl (by decide) (by decide) rfl rfl (by decide) rfl (_) rfl ?_
              intro b100
              refine R_next ⟨.inl rfl, .inl rfl, trivial⟩ ?_
              refine R_chain 5 rfl rfl ?_
              refine S_buildSlice 103 103 rfl rfl rfl rfl rfl Tryd.underlying168 inf42 rfl (by decide) (by decide) rfl rfl (by decide) rfl (_) rfl ?_
              intro b103
              refine R_next ⟨.inl rfl, .inl rfl, trivial⟩ ?_
              refine R_chain 6 rfl rfl ?_
              refine S_callOwn 104 63 rfl rfl rfl rfl rfl rfl rfl cf118 (fun A c => .slice A (q - 1 + 2) c) 46 3 (q - 1 + 2) (((⟨c0.name, p.fi, p.ln⟩ : SPlace) :: (⟨p.fn, t.fi.l.getD c0.fi.toNat [], c0.ln⟩ : SPlace) :: qs).flatMap SPlace.enc) (fun w hM => Concat2_any _ _ _ _ _ _ _ ⟨c0.name, p.fi, p.ln⟩ ⟨p.fn, t.fi.l.getD c0.fi.toNat [], c0.ln⟩ qs w ⟨own_reads hM (i := 103) rfl, rfl⟩ (own_ok2 (enc := SPlace.enc) (l := [⟨c0.name, p.fi, p.ln⟩, ⟨p.fn, t.fi.l.getD c0.fi.toNat [], c0.ln⟩]) hM rfl (i := 100) rfl) (cut_tail (own_ok2 (enc := SPlace.enc) (l := p :: qs) hM (by simp; omega) (i := 63) rfl) (by omega)) (by omega)) ?_
              intro A104 c104
              refine R_next ⟨.inl rfl, .inl rfl, trivial⟩ ?_
              refine Rf_ 7 11 rfl rfl rfl rfl rfl _ trivial (Y.z (y_assign rfl rfl) rfl) ?_
              refine R_go (fun _ _ h => h) ?_
              refine T_region ?_
              refine S_ 105 rfl rfl rfl _ (y_bin rfl rfl rfl (fun hg => b_add (by omega))) ?_
              refine S_ 67 rfl rfl rfl _ (y_move rfl rfl) ?_
              refine S_nil (nextK6 (kf := [(11, 11), (13, 15), (67, 105)]) (kl := [(11, 11), (13, 15), (63, 63), (67, 105)]) (j + 1) ⟨c0.name, p.fi, p.ln⟩ (⟨p.fn, t.fi.l.getD c0.fi.toNat [], c0.ln⟩ :: qs) (q - 1 + 2) A104 c104 (by repeat (first | exact kf_nil | (apply kf_in; focus rfl) | (apply kf_out; focus rfl))) (by repeat (first | exact kl_nil | exact kl_rest (by assumption) rfl | (apply kl_in; focus rfl) | (apply kl_out; focus rfl))) ?_ ?_ ?_ ?_)
              · omega
              · exact ⟨by omega, by simp; omega, by omega, by rw [← hr4, hc2, refP, if_t hyes]⟩
              · exact ⟨rfl, rfl, trivial⟩
              · exact ⟨rfl, trivial⟩
          · try simp only [decide_eq_true_eq, decide_eq_false_iff_not, Bool.or_eq_true, Bool.or_eq_false_iff, Bool.and_eq_true, Bool.and_eq_false_iff, Bool.not_eq_true', Bool.not_eq_false', Bool.not_eq_true, Bool.not_eq_false, Bool.not_true, Bool.not_false, Int.not_lt, Int.not_le, not_or, not_and, Classical.not_not] at h68
            refine T_exit_go (fun _ _ h => h) ?_
            refine T_seq ?_
            refine T_region ?_
            refine S_ 106 rfl rfl rfl _ (y_move rfl rfl) ?_
            refine S_ 4 rfl rfl rfl _ (y_assign rfl rfl) ?_
            refine S_ 5 rfl rfl rfl _ (y_assign rfl rfl) ?_
            refine S_go (fun _ _ h => h) ?_
            refine T_ret (fun a w hF hM => hRb a w (post2 rfl rfl rfl (fun w hM => ?_) a w hF hM))
            have e : refAt t x = p :: qs := by rw [refAt, if_f h20, ← hr4, hct.end (by omega)]; rfl
            rw [e, refAtNo, if_f h20, if_neg (by omega), show (p :: qs).length = q by simp; omega]
            exact ⟨A, c, rfl, hM.sat 63 _ rfl, hM.below⟩
        · try simp only [decide_eq_true_eq, decide_eq_false_iff_not, Bool.or_eq_true, Bool.or_eq_false_iff, Bool.and_eq_true, Bool.and_eq_false_iff, Bool.not_eq_true', Bool.not_eq_false', Bool.not_eq_true, Bool.not_eq_false, Bool.not_true, Bool.not_false, Int.not_lt, Int.not_le, not_or, not_and, Classical.not_not] at h40
          refine T_skip_go (fun _ _ h => h) ?_
          refine T_seq ?_
          refine T_region ?_
          refine S_ 41 rfl rfl rfl _ (y_build (zv := .agg #[.string ⟨#[]⟩, .string ⟨#[]⟩, .int .i64 0]) (pl := [(0, 1), (1, 1), (2, 1)]) (out := [.string ⟨#[]⟩, .string ⟨#[]⟩, .int .i64 0]) rfl rfl Tryd.underlying46 z46 (by kernel_rfl) rfl) ?_
          refine S_store 8 rfl rfl rfl rfl rfl rfl sz46 rfl rfl ?_
          refine S_go (fun _ _ h => h) ?_
          refine T_seq ?_
          refine T_region ?_
          refine S_ 42 rfl rfl rfl _ (y_fieldAddr rfl rfl fa98_1) ?_
          refine S_ 43 rfl rfl rfl _ (y_load 10 rfl rfl rfl rfl Tryd.underlying3 rfl) ?_
          refine S_ 44 rfl rfl rfl _ (y_bin rfl rfl rfl (fun _ => b_geq)) ?_
          refine S_go (fun _ _ h => h) ?_
          refine T_cond rfl (fun h44 => ?_) (fun h44 => ?_)
          · try simp only [decide_eq_true_eq, decide_eq_false_iff_not, Bool.or_eq_true, Bool.or_eq_false_iff, Bool.and_eq_true, Bool.and_eq_false_iff, Bool.not_eq_true', Bool.not_eq_false', Bool.not_eq_true, Bool.not_eq_false, Bool.not_true, Bool.not_false, Int.not_lt, Int.not_le, not_or, not_and, Classical.not_not] at h44
            have hrf := get_file (l := t.fi.l) (i := r.fi.toNat) (by omega)
            refine T_drawsTail 9 (by kernel_rfl) (by kernel_rfl) ?_
            refine D_ 45 rfl rfl rfl _ (y_fieldAddr rfl rfl fa27_2) ?_
            refine D_ 46 rfl rfl rfl _ (y_load 2 rfl rfl rfl rfl Tryd.underlying22 rfl) ?_
            refine D_ 47 rfl rfl rfl _ (y_fieldAddr rfl rfl fa98_1) ?_
            refine D_ 48 rfl rfl rfl _ (y_load 10 rfl rfl rfl rfl Tryd.underlying3 rfl) ?_
            refine D_ 49 rfl rfl rfl _ (y_indexAddrI (j := r.fi.toNat) rfl rfl rfl (fun _ => by omega) Tryd.underlying22 sz9 (fun hg => hf.isSome (by omega)) (fun _ => by omega)) ?_
            refine D_ 50 rfl rfl rfl _ (y_loadT1 (val := (fun l : List UInt8 => str l)) rfl rfl hf (fun _ => hrf) Tryd.underlying9 rfl) ?_
            refine D_ 51 rfl rfl rfl _ (y_fieldAddr rfl rfl fa98_2) ?_
            refine D_ 52 rfl rfl rfl _ (y_load 10 rfl rfl rfl rfl Tryd.underlying3 rfl) ?_
            refine D_ 53 rfl rfl rfl _ (y_build (zv := .agg #[.string ⟨#[]⟩, .string ⟨#[]⟩, .int .i64 0]) (pl := [(0, 1), (1, 1), (2, 1)]) (out := [.string ⟨#[]⟩, _, _]) rfl rfl Tryd.underlying46 z46 (by kernel_rfl) rfl) ?_
            refine D_tail ?_
            refine S_store 8 rfl rfl rfl rfl rfl rfl sz46 rfl rfl ?_
            refine S_go (fun _ _ h => h) ?_
            refine T_region ?_
            refine S_ 54 rfl rfl rfl _ (y_bin rfl rfl rfl (fun hg => b_add (by omega))) ?_
            refine S_ 33 rfl rfl rfl _ (y_move rfl rfl) ?_
            refine S_nil (nextK2 (kf := [(10, 10), (33, 54)]) (kl := [(8, 8), (10, 10), (33, 54)]) (i + 1) (some r) (by repeat (first | exact kf_nil | (apply kf_in; focus rfl) | (apply kf_out; focus rfl))) (by repeat (first | exact kl_nil | exact kl_rest (by assumption) rfl | (apply kl_in; focus rfl) | (apply kl_out; focus rfl))) ?_ ?_ ?_ ?_)
            · omega
            · exact ⟨by omega, by rw [hp2, hx2, atRow, if_neg (by omega)]⟩
            · exact ⟨rfl, trivial⟩
            · exact ⟨by rw [lineFile, lineLine, if_neg (by omega), if_neg (by omega)]; rfl, trivial⟩
          · try simp only [decide_eq_true_eq, decide_eq_false_iff_not, Bool.or_eq_true, Bool.or_eq_false_iff, Bool.and_eq_true, Bool.and_eq_false_iff, Bool.not_eq_true', Bool.not_eq_false', Bool.not_eq_true, Bool.not_eq_false, Bool.not_true, Bool.not_false, Int.not_lt, Int.not_le, not_or, not_and, Classical.not_not] at h44
            refine T_skip_go (fun _ _ h => h) ?_
            refine T_region ?_
            refine S_ 54 rfl rfl rfl _ (y_bin rfl rfl rfl (fun hg => b_add (by omega))) ?_
            refine S_ 33 rfl rfl rfl _ (y_move rfl rfl) ?_
            refine S_nil (nextK2 (kf := [(10, 10), (33, 54)]) (kl := [(8, 8), (10, 10), (33, 54)]) (i + 1) (some r) (by repeat (first | exact kf_nil | (apply kf_in; focus rfl) | (apply kf_out; focus rfl))) (by repeat (first | exact kl_nil | exact kl_rest (by assumption) rfl | (apply kl_in; focus rfl) | (apply kl_out; focus rfl))) ?_ ?_ ?_ ?_)
            · omega
            · exact ⟨by omega, by rw [hp2, hx2, atRow, if_neg (by omega)]⟩
            · exact ⟨rfl, trivial⟩
            · exact ⟨by rw [lineFile, lineLine, if_pos (by omega), if_pos (by omega)]; rfl, trivial⟩
      · try simp only [decide_eq_true_eq, decide_eq_false_iff_not, Bool.or_eq_true, Bool.or_eq_false_iff, Bool.and_eq_true, Bool.and_eq_false_iff, Bool.not_eq_true', Bool.not_eq_false', Bool.not_eq_true, Bool.not_eq_false, Bool.not_true, Bool.not_false, Int.not_lt, Int.not_le, not_or, not_and, Classical.not_not] at h34
        have hro : atRow x t.ro.l none = o := by rw [hp2, hrt.end (by omega)]; rfl
        refine T_exit_go (fun _ _ h => h) ?_
        refine T_seq ?_
        refine T_region ?_
        refine S_ 55 rfl rfl rfl _ (y_fieldAddr rfl rfl fa27_3) ?_
        refine S_ 56 rfl rfl rfl _ (y_load 2 rfl rfl rfl rfl Tryd.underlying23 rfl) ?_
        refine S_ 57 rfl rfl rfl _ (y_move rfl rfl) ?_
        refine S_ 58 rfl rfl rfl _ (y_indexAddrI (j := n) rfl rfl rfl (fun _ => by omega) Tryd.underlying23 sz80 (fun hg => hok.fu.t.isSome (by omega)) (fun _ => by omega)) ?_
        refine S_ 59 rfl rfl rfl _ (y_fieldEl rfl rfl hok.fu.t.rd (fun _ => by omega) fa80_0) ?_
        refine S_ 60 rfl rfl rfl _ (y_load_fT rfl rfl hok.fu.t (fun _ => rfl) (fun _ => hfn) rfl Tryd.underlying9 rfl) ?_
        refine S_ 61 rfl rfl rfl _ (y_fieldAddr rfl rfl fa46_0) ?_
        refine S_store 8 rfl rfl rfl rfl rfl rfl sz9 rfl rfl ?_
        refine S_go (fun _ _ h => h) ?_
        refine T_seq ?_
        refine T_region ?_
        refine S_ 62 rfl rfl rfl _ (y_loadA 8 rfl rfl rfl Tryd.underlying46 rfl sz46) ?_
        refine S_buildSlice 63 63 rfl rfl rfl rfl rfl Tryd.underlying42 inf46 rfl (by decide) (by decide) rfl rfl (by decide) rfl (_) rfl ?_
        intro b63
        refine S_ 11 rfl rfl rfl _ (y_assign rfl rfl) ?_
        refine S_go (fun _ _ h => h) ?_
        refine T_seq ?_
        refine T_seq ?_
        refine T_region ?_
        refine S_ 64 rfl rfl rfl _ (y_fieldAddr rfl rfl fa27_5) ?_
        refine S_ 65 rfl rfl rfl _ (y_load 2 rfl rfl rfl rfl Tryd.underlying25 rfl) ?_
        refine S_ 66 rfl rfl rfl _ (y_len_slice rfl rfl Tryd.underlying25) ?_
        refine S_ 67 rfl rfl rfl _ (y_move rfl rfl) ?_
        refine S_go (fun _ _ h => h) ?_
        refine T_block ?_
        refine T_loopK6 (kf := [(11, 11), (13, 15), (67, 105)]) (kl := [(11, 11), (13, 15), (63, 63), (67, 105)]) (fun (j : Nat) (p : SPlace) (qs : List SPlace) (q : Nat) (A : Option Addr) (c : Nat) => [(67, true, .int .i64 (j : Int)), (11, true, .slice A q c)]) (fun (j : Nat) (p : SPlace) (qs : List SPlace) (q : Nat) (A : Option Addr) (c : Nat) => [(63, .own 46 3 (.slice A q c) q ((p :: qs).flatMap SPlace.enc))]) (fun (j : Nat) (p : SPlace) (qs : List SPlace) (q : Nat) (A : Option Addr) (c : Nat) => j ≤ t.ca.q ∧ q = qs.length + 1 ∧ q ≤ j + 1 ∧ refP x t.fi.l (t.ca.l.drop j) p qs = atOut t x) (fun (j : Nat) (p : SPlace) (qs : List SPlace) (q : Nat) (A : Option Addr) (c : Nat) => t.ca.q - j) 0 ⟨fn.name, lineFile t.fi.l o, lineLine o⟩ [] 1 (some ⟨b63, 0, none⟩) 1 (by repeat (first | exact kf_nil | (apply kf_in; focus rfl) | (apply kf_out; focus rfl))) (by repeat (first | exact kl_nil | exact kl_rest (by assumption) rfl | (apply kl_in; focus rfl) | (apply kl_out; focus rfl))) ?_ ?_ ?_ ?_
        · exact ⟨by omega, rfl, by omega, by have := refP_atOut (t := t) (x := x) (n := n) (by omega); rw [hge, hro] at this; exact this⟩
        · exact ⟨rfl, rfl, trivial⟩
        · exact ⟨rfl, trivial⟩
        rintro j p qs q A c ⟨hr1, hr2, hr3, hr4⟩
        refine T_seq ?_
        refine T_region ?_
        refine S_ 68 rfl rfl rfl _ (y_bin rfl rfl rfl (fun _ => b_lss)) ?_
        refine S_go (fun _ _ h => h) ?_
        refine T_seq ?_
        refine T_cond rfl (fun h68 => ?_) (fun h68 => ?_)
        · try simp only [decide_eq_true_eq, decide_eq_false_iff_not, Bool.or_eq_true, Bool.or_eq_false_iff, Bool.and_eq_true, Bool.and_eq_false_iff, Bool.not_eq_true', Bool.not_eq_false', Bool.not_eq_true, Bool.not_eq_false, Bool.not_true, Bool.not_false, Int.not_lt, Int.not_le, not_or, not_and, Classical.not_not] at h68
          obtain ⟨c0, hc1, hc2⟩ := hct.at (i := j) (by omega)
          obtain ⟨_, hb, _⟩ := hall j c0 hc1
          have hfi := fi_of_call hb
          have hfile := get_file (l := t.fi.l) (i := c0.fi.toNat) (by omega)
          refine T_skip_go (fun _ _ h => h) ?_
          refine T_seq ?_
          refine T_block ?_
          refine T_seq ?_
          refine T_region ?_
          refine S_ 69 rfl rfl rfl _ (y_indexAddr rfl rfl rfl Tryd.underlying25 sz110 (fun hg => hct.isSome (by omega)) (fun _ => by omega)) ?_
          refine S_ 70 rfl rfl rfl _ (y_loadT rfl rfl hct (fun _ => rfl) (fun _ => hc1) Tryd.underlying110 rfl sz110) ?_
          refine S_alloc 13 13 rfl rfl rfl rfl z110 ?_
          intro b13
          refine S_store 13 rfl rfl rfl rfl rfl rfl sz110 rfl rfl ?_
          refine S_go (fun _ _ h => h) ?_
          refine T_seq ?_
          refine T_seq ?_
          refine T_region ?_
          refine S_ 71 rfl rfl rfl _ (y_fieldAddr rfl rfl fa110_1) ?_
          refine S_ 72 rfl rfl rfl _ (y_load 13 rfl rfl rfl rfl Tryd.underlying3 rfl) ?_
          refine S_ 73 rfl rfl rfl _ (y_move rfl rfl) ?_
          refine S_ 74 rfl rfl rfl _ (y_bin rfl rfl rfl (fun _ => b_gtr)) ?_
          refine S_ 75 rfl rfl rfl _ (y_move rfl rfl) ?_
          refine Sg_ 76 rfl rfl rfl rfl rfl rfl _ (y_move rfl rfl) ?_
          refine Sg_ 77 rfl rfl rfl rfl rfl rfl _ (y_fieldAddr rfl rfl fa110_2) ?_
          refine Sg_ 78 rfl rfl rfl rfl rfl rfl _ (y_load 13 rfl rfl rfl rfl Tryd.underlying3 rfl) ?_
          refine Sg_ 79 rfl rfl rfl rfl rfl rfl _ (y_bin rfl rfl rfl (fun _ => b_geq)) ?_
          refine S_ 80 rfl rfl rfl _ (y_or rfl rfl rfl) ?_
          refine S_go (fun _ _ h => h) ?_
          refine T_cond rfl (fun h80 => ?_) (fun h80 => ?_)
          · skip
            have hno : c0.has x = false := by
              have h : x < c0.fr ∨ c0.to ≤ x := by simpa using h80
              simp only [SCall.has, Bool.and_eq_false_iff, decide_eq_false_iff_not]; omega
            refine T_exit_go (fun _ _ h => h) ?_
            refine T_region ?_
            refine S_ 105 rfl rfl rfl _ (y_bin rfl rfl rfl (fun hg => b_add (by omega))) ?_
            refine S_ 67 rfl rfl rfl _ (y_move rfl rfl) ?_
            refine S_nil (nextK6 (kf := [(11, 11), (13, 15), (67, 105)]) (kl := [(11, 11), (13, 15), (63, 63), (67, 105)]) (j + 1) p qs q A c (by repeat (first | exact kf_nil | (apply kf_in; focus rfl) | (apply kf_out; focus rfl))) (by repeat (first | exact kl_nil | exact kl_rest (by assumption) rfl | (apply kl_in; focus rfl) | (apply kl_out; focus rfl))) ?_ ?_ ?_ ?_)
            · omega
            · exact ⟨by omega, hr2, by omega, by rw [← hr4, hc2, refP, if_neg (by simp [hno])]⟩
            · exact ⟨rfl, rfl, trivial⟩
            · exact ⟨rfl, trivial⟩
          · skip
            have hyes : c0.has x = true := by simpa [SCall.has] using h80
            refine T_known (p := q ≤ c) (fun w hM => (own_ok2 (enc := SPlace.enc) (l := p :: qs) hM (by simp; omega) (i := 63) rfl).cap) (fun hcap => ?_)
            refine T_skip_go (fun _ _ h => h) ?_
            refine T_seq ?_
            refine T_region ?_
            refine S_ 81 rfl rfl rfl _ (y_move rfl rfl) ?_
            refine S_ 82 rfl rfl rfl _ (y_indexOwnI (j := 0) 63 rfl rfl rfl (fun _ => rfl) rfl Tryd.underlying42 sz46 (fun _ => by omega)) ?_
            refine S_ 83 rfl rfl rfl _ (y_loadO 63 rfl rfl rfl (by simp; omega : (p :: qs).length = q) (fun _ => rfl) (fun _ => rfl) Tryd.underlying46 rfl sz46) ?_
            refine S_alloc 14 14 rfl rfl rfl rfl z46 ?_
            intro b14
            refine S_store 14 rfl rfl rfl rfl rfl rfl sz46 rfl rfl ?_
            refine S_go (fun _ _ h => h) ?_
            refine T_seq ?_
            refine T_perm [0, 1, 2, 3, 4, 5, 6, 7, 8, 9, 10, 11, 12] [true, true, true, true, true, true, true, true, true, true, true, false, false] [0, 1, 0, 4, 0, 16, 60, 124, 0, 256, 1023, 0, 4095] [(1, [14]), (3, [2]), (5, [13]), (9, [13])] (by kernel_rfl) (by kernel_rfl) (by kernel_rfl) rfl (by kernel_rfl) ?_
            refine Rf_ 0 84 rfl rfl rfl rfl rfl _ trivial (Y.z (y_fieldAddr rfl rfl fa46_0) rfl) ?_
            refine Rf_ 1 85 rfl rfl rfl rfl rfl _ ⟨rfl, trivial⟩ (Y.z (y_load 14 rfl rfl rfl rfl Tryd.underlying9 rfl) rfl) ?_
            refine Rf_ 2 86 rfl rfl rfl rfl rfl _ trivial (Y.z (y_fieldAddr rfl rfl fa27_2) rfl) ?_
            refine Rf_ 3 87 rfl rfl rfl rfl rfl _ ⟨rfl, trivial⟩ (Y.z (y_load 2 rfl rfl rfl rfl Tryd.underlying22 rfl) rfl) ?_
            refine Rf_ 4 88 rfl rfl rfl rfl rfl _ trivial (Y.z (y_fieldAddr rfl rfl fa110_3) rfl) ?_
            refine Rf_ 5 89 rfl rfl rfl rfl rfl _ ⟨rfl, trivial⟩ (Y.z (y_load 13 rfl rfl rfl rfl Tryd.underlying3 rfl) rfl) ?_
            refine Rf_ 6 90 rfl rfl rfl rfl rfl _ trivial (Y.z (y_indexAddrI (j := c0.fi.toNat) rfl rfl rfl (fun _ => by omega) Tryd.underlying22 sz9 (fun hg => hf.isSome (by omega)) (fun _ => by omega)) rfl) ?_
            refine Rf_ 7 91 rfl rfl rfl rfl rfl _ trivial (Y.z (y_loadT1 (val := (fun l : List UInt8 => str l)) rfl rfl hf (fun _ => hfile) Tryd.underlying9 rfl) rfl) ?_
            refine Rf_ 8 92 rfl rfl rfl rfl rfl _ trivial (Y.z (y_fieldAddr rfl rfl fa110_4) rfl) ?_
            refine Rf_ 9 93 rfl rfl rfl rfl rfl _ ⟨rfl, trivial⟩ (Y.z (y_load 13 rfl rfl rfl rfl Tryd.underlying3 rfl) rfl) ?_
            refine Rf_ 10 94 rfl rfl rfl rfl rfl _ trivial (Y.z (y_build (zv := .agg #[.string ⟨#[]⟩, .string ⟨#[]⟩, .int .i64 0]) (pl := [(0, 1), (1, 1), (2, 1)]) (out := [_, _, _]) rfl rfl Tryd.underlying46 z46 (by kernel_rfl) rfl) rfl) ?_
            refine R_chain 11 rfl rfl ?_
            refine S_alloc 15 15 rfl rfl rfl rfl z46 ?_
            intro b15
            refine R_next ⟨.inr ⟨rfl, trivial⟩, .inr ⟨rfl, trivial⟩, .inr ⟨rfl, trivial⟩, .inr ⟨rfl, trivial⟩, trivial⟩ ?_
            refine R_chain 12 rfl rfl ?_
            refine S_store 15 rfl rfl rfl rfl rfl rfl sz46 rfl rfl ?_
            refine R_next ⟨.inl rfl, .inl rfl, .inl rfl, .inl rfl, trivial⟩ ?_
            refine R_go (fun _ _ h => h) ?_
            refine T_seq ?_
            refine T_region ?_
            refine S_ 95 rfl rfl rfl _ (y_fieldAddr rfl rfl fa110_0) ?_
            refine S_ 96 rfl rfl rfl _ (y_load 13 rfl rfl rfl rfl Tryd.underlying9 rfl) ?_
            refine S_ 97 rfl rfl rfl _ (y_fieldAddr rfl rfl fa46_0) ?_
            refine S_store 14 rfl rfl rfl rfl rfl rfl sz9 rfl rfl ?_
            refine S_go (fun _ _ h => h) ?_
            refine T_perm [0, 1, 3, 4, 2, 5, 6, 7] [true, true, false, true, true, false, false, true] [0, 0, 3, 0, 8, 31, 63, 127] [(0, [14]), (1, [15])] (by kernel_rfl) (by kernel_rfl) (by kernel_rfl) rfl (by kernel_rfl) ?_
            refine Rf_ 0 98 rfl rfl rfl rfl rfl _ ⟨rfl, trivial⟩ (Y.z (y_loadA 14 rfl rfl rfl Tryd.underlying46 rfl sz46) rfl) ?_
            refine Rf_ 1 99 rfl rfl rfl rfl rfl _ ⟨rfl, trivial⟩ (Y.z (y_loadA 15 rfl rfl rfl Tryd.underlying46 rfl sz46) rfl) ?_
            refine Rf_ 3 101 rfl rfl rfl rfl rfl _ trivial (Y.z (y_move rfl rfl) rfl) ?_
            refine Rf_ 4 102 rfl rfl rfl rfl rfl _ trivial (Y.z (y_slice rfl rfl Tryd.underlying42 sz46 (.inr ⟨_, _, rfl, rfl⟩) (.inl ⟨rfl, rfl⟩) (show 1 ≤ q by omega) (Nat.le_refl _) hcap) rfl) ?_
            refine R_chain 2 rfl rfl ?_
            refine S_buildSlice 100 100 rfl rfl rfl rfl rfl Tryd.underlying42 inf46 rfl (by decide) (by decide) rfl rfl (by decide) rfl (_) rfl ?_
            intro b100
            refine R_next ⟨.inl rfl, .inl rfl, trivial⟩ ?_
            refine R_chain 5 rfl rfl ?_
            refine S_buildSlice 103 103 rfl rfl rfl rfl rfl Tryd.underlying168 inf42 rfl (by decide) (by decide) rfl rfl (by decide) rfl (_) rfl ?_
            intro b103
            refine R_next ⟨.inl rfl, .inl rfl, trivial⟩ ?_
            refine R_chain 6 rfl rfl ?_
            refine S_callOwn 104 63 rfl rfl rfl rfl rfl rfl rfl cf118 (fun A c => .slice A (q - 1 + 2) c) 46 3 (q - 1 + 2) (((⟨c0.name, p.fi, p.ln⟩ : SPlace) :: (⟨p.fn, t.fi.l.getD c0.fi.toNat [], c0.ln⟩ : SPlace) :: qs).flatMap SPlace.enc) (fun w hM => Concat2_any _ _ _ _ _ _ _ ⟨c0.name, p.fi, p.ln⟩ ⟨p.fn, t.fi.l.getD c0.fi.toNat [], c0.ln⟩ qs w ⟨own_reads hM (i := 103) rfl, rfl⟩ (own_ok2 (enc := SPlace.enc) (l := [⟨c0.name, p.fi, p.ln⟩, ⟨p.fn, t.fi.l.getD c0.fi.toNat [], c0.ln⟩]) hM rfl (i := 100) rfl) (cut_tail (own_ok2 (enc := SPlace.enc) (l := p :: qs) hM (by simp; omega) (i := 63) rfl) (by omega)) (by omega)) ?_
            intro A104 c104
            refine R_next ⟨.inl rfl, .inl rfl, trivial⟩ ?_
            refine Rf_ 7 11 rfl rfl rfl rfl rfl _ trivial (Y.z (y_assign rfl rfl) rfl) ?_
            refine R_go (fun _ _ h => h) ?_
            refine T_region ?_
            refine S_ 105 rfl rfl rfl _ (y_bin rfl rfl rfl (fun hg => b_add (by omega))) ?_
            refine S_ 67 rfl rfl rfl _ (y_move rfl rfl) ?_
            refine S_nil (nextK6 (kf := [(11, 11), (13, 15), (67, 105)]) (kl := [(11, 11), (13, 15), (63, 63), (67, 105)]) (j + 1) ⟨c0.name, p.fi, p.ln⟩ (⟨p.fn, t.fi.l.getD c0.fi.toNat [], c0.ln⟩ :: qs) (q - 1 + 2) A104 c104 (by repeat (first | exact kf_nil | (apply kf_in; focus rfl) | (apply kf_out; focus rfl))) (by repeat (first | exact kl_nil | exact kl_rest (by assumption) rfl | (apply kl_in; focus rfl) | (apply kl_out; focus rfl))) ?_ ?_ ?_ ?_)
            · omega
            · exact ⟨by omega, by simp; omega, by omega, by rw [← hr4, hc2, refP, if_t hyes]⟩
            · exact ⟨rfl, rfl, trivial⟩
            · exact ⟨rfl, trivial⟩
        · try simp only [decide_eq_true_eq, decide_eq_false_iff_not, Bool.or_eq_true, Bool.or_eq_false_iff, Bool.and_eq_true, Bool.and_eq_false_iff, Bool.not_eq_true', Bool.not_eq_false', Bool.not_eq_true, Bool.not_eq_false, Bool.not_true, Bool.not_false, Int.not_lt, Int.not_le, not_or, not_and, Classical.not_not] at h68
          refine T_exit_go (fun _ _ h => h) ?_
          refine T_seq ?_
          refine T_region ?_
          refine S_ 106 rfl rfl rfl _ (y_move rfl rfl) ?_
          refine S_ 4 rfl rfl rfl _ (y_assign rfl rfl) ?_
          refine S_ 5 rfl rfl rfl _ (y_assign rfl rfl) ?_
          refine S_go (fun _ _ h => h) ?_
          refine T_ret (fun a w hF hM => hRb a w (post2 rfl rfl rfl (fun w hM => ?_) a w hF hM))
          have e : refAt t x = p :: qs := by rw [refAt, if_f h20, ← hr4, hct.end (by omega)]; rfl
          rw [e, refAtNo, if_f h20, if_neg (by omega), show (p :: qs).length = q by simp; omega]
          exact ⟨A, c, rfl, hM.sat 63 _ rfl, hM.below⟩
end Go.Proofs.YtofolhnecfkjkaaDoor
