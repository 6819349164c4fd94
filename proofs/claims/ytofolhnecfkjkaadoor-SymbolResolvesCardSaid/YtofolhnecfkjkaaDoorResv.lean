/- The places of a frame, Resolve and Missing. Conditions: those of each theorem. -/
import Derived.Test.YtofolhnecfkjkaaDoorTabs
namespace Go.Proofs.YtofolhnecfkjkaaDoor
set_option linter.unusedSimpArgs false
set_option linter.unusedVariables false
set_option maxRecDepth 20000
open Go.RowKit Go.Eng
def m00 : SMod := ⟨[], [], 0, 0⟩
def t00 : Tab := ⟨[], 0, ⟨none, 0, 0, []⟩, ⟨none, 0, 0, []⟩, ⟨none, 0, 0, []⟩, ⟨none, 0, 0, []⟩⟩
def pl3 (off : Int) (m : SMod) (t : Tab) : List SPlace × List UInt8 := if t.size ≤ off then ([], []) else (atOut t off, m.name)
def offOf (first : Bool) (ad fr : Int) : Int := if first = true then ad - fr else if ad - fr - 1 < 0 then 0 else ad - fr - 1
def pl2 (ad : Int) (first : Bool) (m : SMod) (ts : List Tab) : List SPlace × List UInt8 :=
  if findI (Tab.hasId m.id) ts 0 < 0 then ([], []) else pl3 (offOf first ad m.fr) m (ts.getD (findI (Tab.hasId m.id) ts 0).toNat t00)
def plOf (ad : Int) (first : Bool) (ms : List SMod) (ts : List Tab) : List SPlace × List UInt8 :=
  if ad = -1 ∨ findI (SMod.has ad) ms 0 < 0 then ([], []) else pl2 ad first (ms.getD (findI (SMod.has ad) ms 0).toNat m00) ts
theorem goPlaces_len {x : Int} {files : List (List UInt8)} : ∀ (l : List SCall) (file : List UInt8) (line : Int) (out : List SPlace), (goPlaces x files l file line out).1.length ≤ out.length + l.length
  | [], _, _, out => by simp [goPlaces]
  | c :: r, file, line, out => by
    simp only [goPlaces]
    split
    · refine Nat.le_trans (goPlaces_len r _ _ _) ?_
      simp; omega
    · refine Nat.le_trans (goPlaces_len r _ _ _) ?_
      simp
theorem atOut_len (t : Tab) (x : Int) : (atOut t x).length ≤ t.ca.l.length + 1 := by
  unfold atOut
  dsimp only
  split
  · simp
  · have := goPlaces_len (x := x) (files := t.fi.l) t.ca.l.reverse (lineFile t.fi.l (atRow x t.ro.l none)) (lineLine (atRow x t.ro.l none)) []
    simp at this ⊢
    omega
theorem plOf_len {w : World} {ts : List Tab} (hk : ∀ t ∈ ts, t.Ok w) (h0 : ∀ t ∈ ts, tabNo t = 0) (ad : Int) (first : Bool) (ms : List SMod) : (plOf ad first ms ts).1.length ≤ 1001 := by
  unfold plOf
  split
  · simp
  unfold pl2
  split
  · simp
  rename_i h
  obtain ⟨n, t, h1, h2, _⟩ := findI_at ts 0 (by omega) (by omega : 0 ≤ findI (Tab.hasId (ms.getD (findI (SMod.has ad) ms 0).toNat m00).id) ts 0)
  have e : (findI (Tab.hasId (ms.getD (findI (SMod.has ad) ms 0).toNat m00).id) ts 0).toNat = n := by omega
  have e2 : ts.getD n t00 = t := by rw [List.getD, h2]; rfl
  rw [e, e2]
  unfold pl3
  split
  · simp
  · have ht : t ∈ ts := List.mem_of_getElem? h2
    have := atOut_len t (offOf first ad (ms.getD (findI (SMod.has ad) ms 0).toNat m00).fr)
    have hl := (hk t ht).ca.t.len
    have hr := (rows_of (h0 t ht)).2.2.2.2
    exact Nat.le_trans this (by omega)
theorem own_ok2 {α : Type} {enc : α → List Value} {size : Nat} {e : TypeId} {w0 w : World} {L : HL} {i : Nat} {A : Option Addr} {c q : Nat} {l : List α} (hM : Mem w0 L w) (hq : l.length = q) (hL : L.get i = some (.own e size (.slice A q c) q (l.flatMap enc))) : Sl.Ok enc size w ⟨A, q, c, l⟩ := by
  refine ⟨⟨own_reads hM hL, hq⟩, ?_⟩
  have h : w.ownsRow w0.heap.size e size (.slice A q c) q (l.flatMap enc) := hM.sat i _ hL
  rcases h.2 with ⟨hv, h0⟩ | ⟨g, cap, cur, hv, _, _, hnc, _⟩
  · show q ≤ c
    omega
  · have : c = cap := by injection hv
    show q ≤ c
    omega
set_option maxHeartbeats 800000 in
theorem placesOf_any (f : Frm) (first : Bool) (ms : Sl SMod) (ts : Sl Tab) (w : World) (hms : ModsOk w ms) (hts : TabsOk w ts) (hm0 : modsNo ms.l 0 = 0) (ht0 : ∀ t ∈ ts.l, tabNo t = 0) :
    Calls Tryd.prog 77 #[.agg f.enc.toArray, .bool first, .slice ms.A ms.q ms.c, .slice ts.A ts.q ts.c] w fun e w' => ∃ A c, e = .returned (.tuple #[.slice A (plOf f.ad first ms.l ts.l).1.length c, str (plOf f.ad first ms.l ts.l).2]) ∧
      w'.ownsRow w.heap.size 46 3 (.slice A (plOf f.ad first ms.l ts.l).1.length c) (plOf f.ad first ms.l ts.l).1.length ((plOf f.ad first ms.l ts.l).1.flatMap SPlace.enc) ∧ Below w.heap.size w w' := by
  have hmt := hms.ok.t
  have hmq := hms.q
  have htt := hts.ok.t
  have htq := hts.q
  have hml := hmt.len
  have htl := htt.len
  refine enter_args (args := [.agg #[str f.m, str f.f, str f.fi, .int .i64 f.ln, .int .i64 f.ad, .bool f.own], .bool first, .slice ms.A ms.q ms.c, .slice ts.A ts.q ts.c]) (F := _) Tryd.func77 rfl Tryd.ntmps77 rfl rfl ?_
  intro Rb hRb hRn
  refine T_seq ?_
  refine T_region ?_
  refine S_box 4 4 rfl rfl rfl rfl rfl ?_
  intro b4
  refine S_box 6 6 rfl rfl rfl rfl rfl ?_
  intro b6
  refine S_nilSlice 8 (e := 46) (size := 3) ?_
  refine S_ 8 rfl rfl rfl _ (y_assign rfl rfl) ?_
  refine S_ 9 rfl rfl rfl _ (y_assign rfl rfl) ?_
  refine S_go (fun _ _ h => h) ?_
  refine T_seq ?_
  refine T_region ?_
  refine S_ 17 rfl rfl rfl _ (y_load 6 rfl rfl rfl rfl Tryd.underlying28 rfl) ?_
  refine S_ 18 rfl rfl rfl _ (y_fieldAddr rfl rfl fa67_4) ?_
  refine S_ 19 rfl rfl rfl _ (y_load 4 rfl rfl rfl rfl Tryd.underlying3 rfl) ?_
  refine S_ 20 rfl rfl rfl _ (y_call rfl rfl rfl cf10 (fun _ w hM => ModuleAt_any ms _ w (hms.ok.below hM.below) hms.q)) ?_
  refine S_ 16 rfl rfl rfl _ (y_move rfl rfl) ?_
  refine S_ 21 rfl rfl rfl _ (y_extract rfl rfl rfl) ?_
  refine S_ 22 rfl rfl rfl _ (y_extract rfl rfl rfl) ?_
  refine S_alloc 10 10 rfl rfl rfl rfl z3 ?_
  intro b10
  refine S_store 10 rfl rfl rfl rfl rfl rfl sz3 rfl rfl ?_
  refine S_ 11 rfl rfl rfl _ (y_assign rfl rfl) ?_
  refine S_go (fun _ _ h => h) ?_
  refine T_seq ?_
  refine T_seq ?_
  refine T_region ?_
  refine S_ 23 rfl rfl rfl _ (y_fieldAddr rfl rfl fa67_4) ?_
  refine S_ 24 rfl rfl rfl _ (y_load 4 rfl rfl rfl rfl Tryd.underlying3 rfl) ?_
  refine S_ 25 rfl rfl rfl _ (y_bin rfl rfl rfl (fun _ => b_eql)) ?_
  refine S_ 26 rfl rfl rfl _ (y_move rfl rfl) ?_
  refine Sg_ 27 rfl rfl rfl rfl rfl rfl _ (y_move rfl rfl) ?_
  refine Sg_ 28 rfl rfl rfl rfl rfl rfl _ (y_not rfl rfl) ?_
  refine S_ 29 rfl rfl rfl _ (y_or rfl rfl rfl) ?_
  refine S_go (fun _ _ h => h) ?_
  refine T_cond rfl (fun h29 => ?_) (fun h29 => ?_)
  · try simp only [decide_eq_true_eq, decide_eq_false_iff_not, Bool.or_eq_true, Bool.or_eq_false_iff, Bool.and_eq_true, Bool.and_eq_false_iff, Bool.not_eq_true', Bool.not_eq_false', Bool.not_eq_true, Bool.not_eq_false, Bool.not_true, Bool.not_false, Int.not_lt, Int.not_le, not_or, not_and, Classical.not_not] at h29
    refine T_seq ?_
    refine T_region ?_
    refine S_nilSlice 8 (e := 46) (size := 3) ?_
    refine S_ 8 rfl rfl rfl _ (y_assign rfl rfl) ?_
    refine S_ 9 rfl rfl rfl _ (y_assign rfl rfl) ?_
    refine S_go (fun _ _ h => h) ?_
    refine T_ret (fun a w hF hM => hRb a w (post2 rfl rfl rfl (fun w hM => ?_) a w hF hM))
    have e : plOf f.ad first ms.l ts.l = ([], []) := if_pos (by omega)
    rw [e]
    exact ⟨none, 0, rfl, hM.sat 8 _ rfl, hM.below⟩
  · try simp only [decide_eq_true_eq, decide_eq_false_iff_not, Bool.or_eq_true, Bool.or_eq_false_iff, Bool.and_eq_true, Bool.and_eq_false_iff, Bool.not_eq_true', Bool.not_eq_false', Bool.not_eq_true, Bool.not_eq_false, Bool.not_true, Bool.not_false, Int.not_lt, Int.not_le, not_or, not_and, Classical.not_not] at h29
    obtain ⟨n, m, hn, hm, hp⟩ := findI_at ms.l 0 (by omega) h29.2
    have hif : (if findI (SMod.has f.ad) ms.l 0 < 0 then 0 else findI (SMod.has f.ad) ms.l 0) = (n : Int) := by rw [if_neg (by omega)]; omega
    have e1 : ms.l.getD (findI (SMod.has f.ad) ms.l 0).toNat m00 = m := by rw [hn, show (0 + (n : Int)).toNat = n by omega, List.getD, hm]; rfl
    have hr := mods_right _ _ hm0 m (mem_at hm)
    have hp2 : m.fr ≤ f.ad ∧ f.ad < m.to := by simpa [SMod.has] using hp
    have hnl := (List.getElem?_eq_some_iff.1 hm).1
    refine T_skip_go (fun _ _ h => h) ?_
    refine T_seq ?_
    refine T_region ?_
    refine S_ 30 rfl rfl rfl _ (y_move rfl rfl) ?_
    refine S_ 31 rfl rfl rfl _ (y_makeFunc rfl rfl rfl rfl rfl) ?_
    refine S_ 32 rfl rfl rfl _ (y_call rfl rfl rfl cf81 (fun _ w hM => IndexFuncT_any _ _ _ _ _ _ (Tab.hasId m.id) w (htt.below hM.below) htq (asks_placesOf (hms.ok.below hM.below) hm (hM.box_cell (i := 6) rfl rfl) (hM.box_cell (i := 10) rfl (by show some (Value.int .i64 _) = _; rw [hif]))))) ?_
    refine S_ 12 rfl rfl rfl _ (y_assign rfl rfl) ?_
    refine S_go (fun _ _ h => h) ?_
    refine T_seq ?_
    refine T_seq ?_
    refine T_region ?_
    refine S_ 33 rfl rfl rfl _ (y_move rfl rfl) ?_
    refine S_ 34 rfl rfl rfl _ (y_bin rfl rfl rfl (fun _ => b_lss)) ?_
    refine S_go (fun _ _ h => h) ?_
    refine T_cond rfl (fun h34 => ?_) (fun h34 => ?_)
    · try simp only [decide_eq_true_eq, decide_eq_false_iff_not, Bool.or_eq_true, Bool.or_eq_false_iff, Bool.and_eq_true, Bool.and_eq_false_iff, Bool.not_eq_true', Bool.not_eq_false', Bool.not_eq_true, Bool.not_eq_false, Bool.not_true, Bool.not_false, Int.not_lt, Int.not_le, not_or, not_and, Classical.not_not] at h34
      refine T_seq ?_
      refine T_region ?_
      refine S_nilSlice 8 (e := 46) (size := 3) ?_
      refine S_ 8 rfl rfl rfl _ (y_assign rfl rfl) ?_
      refine S_ 9 rfl rfl rfl _ (y_assign rfl rfl) ?_
      refine S_go (fun _ _ h => h) ?_
      refine T_ret (fun a w hF hM => hRb a w (post2 rfl rfl rfl (fun w hM => ?_) a w hF hM))
      have e : plOf f.ad first ms.l ts.l = ([], []) := by rw [plOf, if_neg (by omega), e1, pl2, if_pos (by omega)]
      rw [e]
      exact ⟨none, 0, rfl, hM.sat 8 _ rfl, hM.below⟩
    · try simp only [decide_eq_true_eq, decide_eq_false_iff_not, Bool.or_eq_true, Bool.or_eq_false_iff, Bool.and_eq_true, Bool.and_eq_false_iff, Bool.not_eq_true', Bool.not_eq_false', Bool.not_eq_true, Bool.not_eq_false, Bool.not_true, Bool.not_false, Int.not_lt, Int.not_le, not_or, not_and, Classical.not_not] at h34
      obtain ⟨k, t, hk, ht, _⟩ := findI_at ts.l 0 (by omega) (by omega : 0 ≤ findI (Tab.hasId m.id) ts.l 0)
      have e2 : ts.l.getD (findI (Tab.hasId m.id) ts.l 0).toNat t00 = t := by rw [hk, show (0 + (k : Int)).toNat = k by omega, List.getD, ht]; rfl
      have hkl := (List.getElem?_eq_some_iff.1 ht).1
      refine T_skip_go (fun _ _ h => h) ?_
      refine T_seq ?_
      refine T_draws (by kernel_rfl) (by kernel_rfl) ?_
      refine D_ 35 rfl rfl rfl _ (y_fieldAddr rfl rfl fa67_4) ?_
      refine D_ 36 rfl rfl rfl _ (y_load 4 rfl rfl rfl rfl Tryd.underlying3 rfl) ?_
      refine D_ 37 rfl rfl rfl _ (y_load 6 rfl rfl rfl rfl Tryd.underlying28 rfl) ?_
      refine D_ 38 rfl rfl rfl _ (y_load 10 rfl rfl rfl rfl Tryd.underlying3 rfl) ?_
      refine D_ 39 rfl rfl rfl _ (y_indexAddrI (j := n) rfl rfl rfl (fun _ => by omega) Tryd.underlying28 sz86 (fun hg => hmt.isSome (by omega)) (fun _ => by omega)) ?_
      refine D_ 40 rfl rfl rfl _ (y_fieldEl rfl rfl hmt.rd (fun _ => by omega) fa86_2) ?_
      refine D_ 41 rfl rfl rfl _ (y_load_fT rfl rfl hmt (fun _ => rfl) (fun _ => hm) rfl Tryd.underlying3 rfl) ?_
      refine D_ 42 rfl rfl rfl _ (y_bin rfl rfl rfl (fun hg => b_sub (by omega))) ?_
      refine D_ 13 rfl rfl rfl _ (y_assign rfl rfl) ?_
      refine D_go (fun _ _ h => h) ?_
      refine T_seq ?_
      refine T_seq ?_
      refine T_region ?_
      refine S_ 43 rfl rfl rfl _ (y_move rfl rfl) ?_
      refine S_ 44 rfl rfl rfl _ (y_not rfl rfl) ?_
      refine S_go (fun _ _ h => h) ?_
      refine T_cond rfl (fun h44 => ?_) (fun h44 => ?_)
      · skip
        obtain rfl : first = false := by simpa using h44
        refine T_region ?_
        refine S_ 45 rfl rfl rfl _ (y_move rfl rfl) ?_
        refine S_ 46 rfl rfl rfl _ (y_bin rfl rfl rfl (fun hg => b_sub (by omega))) ?_
        refine S_ 47 rfl rfl rfl _ (y_max rfl rfl rfl) ?_
        refine S_ 13 rfl rfl rfl _ (y_assign rfl rfl) ?_
        refine S_go (fun _ _ h => h) ?_
        refine T_seq ?_
        refine T_seq ?_
        refine T_region ?_
        refine S_ 48 rfl rfl rfl _ (y_move rfl rfl) ?_
        refine S_ 49 rfl rfl rfl _ (y_move rfl rfl) ?_
        refine S_ 50 rfl rfl rfl _ (y_move rfl rfl) ?_
        refine S_ 51 rfl rfl rfl _ (y_indexAddrI (j := k) rfl rfl rfl (fun _ => by omega) Tryd.underlying58 sz27 (fun hg => htt.isSome (by omega)) (fun _ => by omega)) ?_
        refine S_ 52 rfl rfl rfl _ (y_fieldEl rfl rfl htt.rd (fun _ => by omega) fa27_1) ?_
        refine S_ 53 rfl rfl rfl _ (y_load_fT rfl rfl htt (fun _ => rfl) (fun _ => ht) rfl Tryd.underlying3 rfl) ?_
        refine S_ 54 rfl rfl rfl _ (y_bin rfl rfl rfl (fun _ => b_geq)) ?_
        refine S_go (fun _ _ h => h) ?_
        refine T_cond rfl (fun h54 => ?_) (fun h54 => ?_)
        · try simp only [decide_eq_true_eq, decide_eq_false_iff_not, Bool.or_eq_true, Bool.or_eq_false_iff, Bool.and_eq_true, Bool.and_eq_false_iff, Bool.not_eq_true', Bool.not_eq_false', Bool.not_eq_true, Bool.not_eq_false, Bool.not_true, Bool.not_false, Int.not_lt, Int.not_le, not_or, not_and, Classical.not_not] at h54
          refine T_seq ?_
          refine T_region ?_
          refine S_nilSlice 8 (e := 46) (size := 3) ?_
          refine S_ 8 rfl rfl rfl _ (y_assign rfl rfl) ?_
          refine S_ 9 rfl rfl rfl _ (y_assign rfl rfl) ?_
          refine S_go (fun _ _ h => h) ?_
          refine T_ret (fun a w hF hM => hRb a w (post2 rfl rfl rfl (fun w hM => ?_) a w hF hM))
          have e : plOf f.ad false ms.l ts.l = ([], []) := by rw [plOf, if_neg (by omega), e1, pl2, if_neg (by omega), e2, pl3]; exact if_pos h54
          rw [e]
          exact ⟨none, 0, rfl, hM.sat 8 _ rfl, hM.below⟩
        · try simp only [decide_eq_true_eq, decide_eq_false_iff_not, Bool.or_eq_true, Bool.or_eq_false_iff, Bool.and_eq_true, Bool.and_eq_false_iff, Bool.not_eq_true', Bool.not_eq_false', Bool.not_eq_true, Bool.not_eq_false, Bool.not_true, Bool.not_false, Int.not_lt, Int.not_le, not_or, not_and, Classical.not_not] at h54
          refine T_skip_go (fun _ _ h => h) ?_
          refine T_seq ?_
          refine T_region ?_
          refine S_ 56 rfl rfl rfl _ (y_move rfl rfl) ?_
          refine S_ 57 rfl rfl rfl _ (y_move rfl rfl) ?_
          refine S_ 58 rfl rfl rfl _ (y_indexAddrI (j := k) rfl rfl rfl (fun _ => by omega) Tryd.underlying58 sz27 (fun hg => htt.isSome (by omega)) (fun _ => by omega)) ?_
          refine S_ 59 rfl rfl rfl _ (y_loadT rfl rfl htt (fun _ => rfl) (fun _ => ht) Tryd.underlying27 rfl sz27) ?_
          refine S_ 60 rfl rfl rfl _ (y_move rfl rfl) ?_
          refine S_callOwn 61 61 rfl rfl rfl rfl rfl rfl rfl cf59 (fun A c => .tuple #[.slice A (atOut t (offOf false f.ad m.fr)).length c, .int .i64 (if findI (SFunc.has (offOf false f.ad m.fr)) t.fu.l 0 < 0 then 7 else 0)]) 46 3 ((atOut t (offOf false f.ad m.fr)).length) ((atOut t (offOf false f.ad m.fr)).flatMap SPlace.enc) (fun w hM => at_any t (offOf false f.ad m.fr) w ((hts.n t (mem_at ht)).below hM.below) (ht0 t (mem_at ht))) ?_
          intro A61 c61
          refine S_ 55 rfl rfl rfl _ (y_move rfl rfl) ?_
          refine S_ 62 rfl rfl rfl _ (y_extract rfl rfl rfl) ?_
          refine S_ 63 rfl rfl rfl _ (y_extract rfl rfl rfl) ?_
          refine S_ 14 rfl rfl rfl _ (y_assign rfl rfl) ?_
          refine S_ 15 rfl rfl rfl _ (y_assign rfl rfl) ?_
          refine S_go (fun _ _ h => h) ?_
          refine T_seq ?_
          refine T_draws (by kernel_rfl) (by kernel_rfl) ?_
          refine D_ 64 rfl rfl rfl _ (y_move rfl rfl) ?_
          refine D_ 65 rfl rfl rfl _ (y_load 6 rfl rfl rfl rfl Tryd.underlying28 rfl) ?_
          refine D_ 66 rfl rfl rfl _ (y_load 10 rfl rfl rfl rfl Tryd.underlying3 rfl) ?_
          refine D_ 67 rfl rfl rfl _ (y_indexAddrI (j := n) rfl rfl rfl (fun _ => by omega) Tryd.underlying28 sz86 (fun hg => hmt.isSome (by omega)) (fun _ => by omega)) ?_
          refine D_ 68 rfl rfl rfl _ (y_fieldEl rfl rfl hmt.rd (fun _ => by omega) fa86_0) ?_
          refine D_ 69 rfl rfl rfl _ (y_load_fT rfl rfl hmt (fun _ => rfl) (fun _ => hm) rfl Tryd.underlying9 rfl) ?_
          refine D_ 8 rfl rfl rfl _ (y_assign rfl rfl) ?_
          refine D_ 9 rfl rfl rfl _ (y_assign rfl rfl) ?_
          refine D_go (fun _ _ h => h) ?_
          refine T_ret (fun a w hF hM => hRb a w (post2 rfl rfl rfl (fun w hM => ?_) a w hF hM))
          have e : plOf f.ad false ms.l ts.l = (atOut t (offOf false f.ad m.fr), m.name) := by rw [plOf, if_neg (by omega), e1, pl2, if_neg (by omega), e2, pl3]; exact if_neg (fun h => absurd h (Int.not_le.2 h54))
          rw [e]
          exact ⟨A61, c61, rfl, hM.sat 61 _ rfl, hM.below⟩
      · skip
        obtain rfl : first = true := by simpa using h44
        refine T_skip_go (fun _ _ h => h) ?_
        refine T_seq ?_
        refine T_seq ?_
        refine T_region ?_
        refine S_ 48 rfl rfl rfl _ (y_move rfl rfl) ?_
        refine S_ 49 rfl rfl rfl _ (y_move rfl rfl) ?_
        refine S_ 50 rfl rfl rfl _ (y_move rfl rfl) ?_
        refine S_ 51 rfl rfl rfl _ (y_indexAddrI (j := k) rfl rfl rfl (fun _ => by omega) Tryd.underlying58 sz27 (fun hg => htt.isSome (by omega)) (fun _ => by omega)) ?_
        refine S_ 52 rfl rfl rfl _ (y_fieldEl rfl rfl htt.rd (fun _ => by omega) fa27_1) ?_
        refine S_ 53 rfl rfl rfl _ (y_load_fT rfl rfl htt (fun _ => rfl) (fun _ => ht) rfl Tryd.underlying3 rfl) ?_
        refine S_ 54 rfl rfl rfl _ (y_bin rfl rfl rfl (fun _ => b_geq)) ?_
        refine S_go (fun _ _ h => h) ?_
        refine T_cond rfl (fun h54 => ?_) (fun h54 => ?_)
        · try simp only [decide_eq_true_eq, decide_eq_false_iff_not, Bool.or_eq_true, Bool.or_eq_false_iff, Bool.and_eq_true, Bool.and_eq_false_iff, Bool.not_eq_true', Bool.not_eq_false', Bool.not_eq_true, Bool.not_eq_false, Bool.not_true, Bool.not_false, Int.not_lt, Int.not_le, not_or, not_and, Classical.not_not] at h54
          refine T_seq ?_
          refine T_region ?_
          refine S_nilSlice 8 (e := 46) (size := 3) ?_
          refine S_ 8 rfl rfl rfl _ (y_assign rfl rfl) ?_
          refine S_ 9 rfl rfl rfl _ (y_assign rfl rfl) ?_
          refine S_go (fun _ _ h => h) ?_
          refine T_ret (fun a w hF hM => hRb a w (post2 rfl rfl rfl (fun w hM => ?_) a w hF hM))
          have e : plOf f.ad true ms.l ts.l = ([], []) := by rw [plOf, if_neg (by omega), e1, pl2, if_neg (by omega), e2, pl3]; exact if_pos h54
          rw [e]
          exact ⟨none, 0, rfl, hM.sat 8 _ rfl, hM.below⟩
        · try simp only [decide_eq_true_eq, decide_eq_false_iff_not, Bool.or_eq_true, Bool.or_eq_false_iff, Bool.and_eq_true, Bool.and_eq_false_iff, Bool.not_eq_true', Bool.not_eq_false', Bool.not_eq_true, Bool.not_eq_false, Bool.not_true, Bool.not_false, Int.not_lt, Int.not_le, not_or, not_and, Classical.not_not] at h54
          refine T_skip_go (fun _ _ h => h) ?_
          refine T_seq ?_
          refine T_region ?_
          refine S_ 56 rfl rfl rfl _ (y_move rfl rfl) ?_
          refine S_ 57 rfl rfl rfl _ (y_move rfl rfl) ?_
          refine S_ 58 rfl rfl rfl _ (y_indexAddrI (j := k) rfl rfl rfl (fun _ => by omega) Tryd.underlying58 sz27 (fun hg => htt.isSome (by omega)) (fun _ => by omega)) ?_
          refine S_ 59 rfl rfl rfl _ (y_loadT rfl rfl htt (fun _ => rfl) (fun _ => ht) Tryd.underlying27 rfl sz27) ?_
          refine S_ 60 rfl rfl rfl _ (y_move rfl rfl) ?_
          refine S_callOwn 61 61 rfl rfl rfl rfl rfl rfl rfl cf59 (fun A c => .tuple #[.slice A (atOut t (offOf true f.ad m.fr)).length c, .int .i64 (if findI (SFunc.has (offOf true f.ad m.fr)) t.fu.l 0 < 0 then 7 else 0)]) 46 3 ((atOut t (offOf true f.ad m.fr)).length) ((atOut t (offOf true f.ad m.fr)).flatMap SPlace.enc) (fun w hM => at_any t (offOf true f.ad m.fr) w ((hts.n t (mem_at ht)).below hM.below) (ht0 t (mem_at ht))) ?_
          intro A61 c61
          refine S_ 55 rfl rfl rfl _ (y_move rfl rfl) ?_
          refine S_ 62 rfl rfl rfl _ (y_extract rfl rfl rfl) ?_
          refine S_ 63 rfl rfl rfl _ (y_extract rfl rfl rfl) ?_
          refine S_ 14 rfl rfl rfl _ (y_assign rfl rfl) ?_
          refine S_ 15 rfl rfl rfl _ (y_assign rfl rfl) ?_
          refine S_go (fun _ _ h => h) ?_
          refine T_seq ?_
          refine T_draws (by kernel_rfl) (by kernel_rfl) ?_
          refine D_ 64 rfl rfl rfl _ (y_move rfl rfl) ?_
          refine D_ 65 rfl rfl rfl _ (y_load 6 rfl rfl rfl rfl Tryd.underlying28 rfl) ?_
          refine D_ 66 rfl rfl rfl _ (y_load 10 rfl rfl rfl rfl Tryd.underlying3 rfl) ?_
          refine D_ 67 rfl rfl rfl _ (y_indexAddrI (j := n) rfl rfl rfl (fun _ => by omega) Tryd.underlying28 sz86 (fun hg => hmt.isSome (by omega)) (fun _ => by omega)) ?_
          refine D_ 68 rfl rfl rfl _ (y_fieldEl rfl rfl hmt.rd (fun _ => by omega) fa86_0) ?_
          refine D_ 69 rfl rfl rfl _ (y_load_fT rfl rfl hmt (fun _ => rfl) (fun _ => hm) rfl Tryd.underlying9 rfl) ?_
          refine D_ 8 rfl rfl rfl _ (y_assign rfl rfl) ?_
          refine D_ 9 rfl rfl rfl _ (y_assign rfl rfl) ?_
          refine D_go (fun _ _ h => h) ?_
          refine T_ret (fun a w hF hM => hRb a w (post2 rfl rfl rfl (fun w hM => ?_) a w hF hM))
          have e : plOf f.ad true ms.l ts.l = (atOut t (offOf true f.ad m.fr), m.name) := by rw [plOf, if_neg (by omega), e1, pl2, if_neg (by omega), e2, pl3]; exact if_neg (fun h => absurd h (Int.not_le.2 h54))
          rw [e]
          exact ⟨A61, c61, rfl, hM.sat 61 _ rfl, hM.below⟩
end Go.Proofs.YtofolhnecfkjkaaDoor
