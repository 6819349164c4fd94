/- The law SymbolResolved: without tables, or without addresses, frames stay; of what is resolved nothing is Missing. Conditions: those of each theorem. -/
import Derived.Test.YtofolhnecfkjkaaDoorResol
import Derived.Test.YtofolhnecfkjkaaDoorAwake
import Derived.Test.YtofolhnecfkjkaaDoorEqS
namespace Go.Proofs.YtofolhnecfkjkaaDoor
set_option linter.unusedSimpArgs false
set_option linter.unusedVariables false
set_option maxRecDepth 20000
open Go.RowKit Go.Eng
def Frm.eqB (a b : Frm) : Bool := decide (a.m = b.m) && (decide (a.f = b.f) && (decide (a.fi = b.fi) && (decide (a.ln = b.ln) && (decide (a.ad = b.ad) && (a.own == b.own)))))
theorem Frm.eqB_iff (a b : Frm) : Frm.eqB a b = true ↔ a = b := by cases a; cases b; simp [Frm.eqB]
theorem EqualFr_any (A B : Option Addr) (q c p d : Nat) (l m : List (Frm)) (w : World) (hl : SlT Frm.enc 6 w A q l) (hm : SlT Frm.enc 6 w B p m) (hq : q ≤ 4611686018427387904) (hp : p ≤ 4611686018427387904) :
    Calls Tryd.prog 34 #[.slice A q c, .slice B p d] w fun e w' => e = .returned (.bool (eqLB Frm.eqB l m)) ∧ Below w.heap.size w w' := by
  have hlen := hl.len
  have hmen := hm.len
  refine enter_args (args := [.slice A q c, .slice B p d]) (F := _) Tryd.func34 rfl Tryd.ntmps34 rfl rfl ?_
  intro Rb hRb hRn
  refine T_seq ?_
  refine T_region ?_
  refine S_ 4 rfl rfl rfl _ (y_assign rfl rfl) ?_
  refine S_go (fun _ _ h => h) ?_
  refine T_seq ?_
  refine T_seq ?_
  refine T_region ?_
  refine S_ 6 rfl rfl rfl _ (y_move rfl rfl) ?_
  refine S_ 7 rfl rfl rfl _ (y_len_slice rfl rfl Tryd.underlying57) ?_
  refine S_ 8 rfl rfl rfl _ (y_move rfl rfl) ?_
  refine S_ 9 rfl rfl rfl _ (y_len_slice rfl rfl Tryd.underlying57) ?_
  refine S_ 10 rfl rfl rfl _ (y_bin rfl rfl rfl (fun _ => b_neq)) ?_
  refine S_go (fun _ _ h => h) ?_
  refine T_cond rfl (fun h10 => ?_) (fun h10 => ?_)
  · try simp only [decide_eq_true_eq, decide_eq_false_iff_not, Bool.or_eq_true, Bool.or_eq_false_iff, Bool.and_eq_true, Bool.and_eq_false_iff, Bool.not_eq_true', Bool.not_eq_false', Bool.not_eq_true, Bool.not_eq_false, Bool.not_true, Bool.not_false, Int.not_lt, Int.not_le, not_or, not_and, Classical.not_not] at h10
    refine T_seq ?_
    refine T_region ?_
    refine S_ 4 rfl rfl rfl _ (y_assign rfl rfl) ?_
    refine S_go (fun _ _ h => h) ?_
    refine T_ret (fun a w hF hM => hRb a w (post1 rfl rfl (fun w hM => ?_) a w hF hM))
    exact ⟨by rw [eqLB_len l m (by omega)], hM.below⟩
  · try simp only [decide_eq_true_eq, decide_eq_false_iff_not, Bool.or_eq_true, Bool.or_eq_false_iff, Bool.and_eq_true, Bool.and_eq_false_iff, Bool.not_eq_true', Bool.not_eq_false', Bool.not_eq_true, Bool.not_eq_false, Bool.not_true, Bool.not_false, Int.not_lt, Int.not_le, not_or, not_and, Classical.not_not] at h10
    refine T_skip_go (fun _ _ h => h) ?_
    refine T_seq ?_
    refine T_seq ?_
    refine T_region ?_
    refine S_ 11 rfl rfl rfl _ (y_move rfl rfl) ?_
    refine S_ 12 rfl rfl rfl _ (y_len_slice rfl rfl Tryd.underlying57) ?_
    refine S_ 13 rfl rfl rfl _ (y_move rfl rfl) ?_
    refine S_go (fun _ _ h => h) ?_
    refine T_block ?_
    refine T_loopK1 (kf := [(4, 5), (13, 25)]) (kl := [(4, 5), (13, 25)]) (fun (i : Nat) => [(13, true, .int .i64 (i : Int))]) (fun (i : Nat) => []) (fun (i : Nat) => i ≤ q ∧ eqLB Frm.eqB l m = eqLB Frm.eqB (l.drop i) (m.drop i)) (fun (i : Nat) => q - i) 0 (by repeat (first | exact kf_nil | (apply kf_in; focus rfl) | (apply kf_out; focus rfl))) (by repeat (first | exact kl_nil | exact kl_rest (by assumption) rfl | (apply kl_in; focus rfl) | (apply kl_out; focus rfl))) ?_ ?_ ?_ ?_
    · exact ⟨by omega, rfl⟩
    · exact ⟨rfl, trivial⟩
    · exact trivial
    rintro i ⟨hp1, hp2⟩
    refine T_seq ?_
    refine T_region ?_
    refine S_ 14 rfl rfl rfl _ (y_bin rfl rfl rfl (fun _ => b_lss)) ?_
    refine S_go (fun _ _ h => h) ?_
    refine T_seq ?_
    refine T_cond rfl (fun h14 => ?_) (fun h14 => ?_)
    · try simp only [decide_eq_true_eq, decide_eq_false_iff_not, Bool.or_eq_true, Bool.or_eq_false_iff, Bool.and_eq_true, Bool.and_eq_false_iff, Bool.not_eq_true', Bool.not_eq_false', Bool.not_eq_true, Bool.not_eq_false, Bool.not_true, Bool.not_false, Int.not_lt, Int.not_le, not_or, not_and, Classical.not_not] at h14
      obtain ⟨a, hx1, hx2⟩ := hl.at (i := i) (by omega)
      obtain ⟨b, hy1, hy2⟩ := hm.at (i := i) (by omega)
      refine T_skip_go (fun _ _ h => h) ?_
      refine T_seq ?_
      refine T_block ?_
      refine T_seq ?_
      refine T_region ?_
      refine S_ 15 rfl rfl rfl _ (y_move rfl rfl) ?_
      refine S_ 5 rfl rfl rfl _ (y_assign rfl rfl) ?_
      refine S_go (fun _ _ h => h) ?_
      refine T_seq ?_
      refine T_draws (by kernel_rfl) (by kernel_rfl) ?_
      refine D_ 16 rfl rfl rfl _ (y_move rfl rfl) ?_
      refine D_ 17 rfl rfl rfl _ (y_move rfl rfl) ?_
      refine D_ 18 rfl rfl rfl _ (y_indexAddr rfl rfl rfl Tryd.underlying57 sz67 (fun hg => hl.isSome (by omega)) (fun _ => by omega)) ?_
      refine D_ 19 rfl rfl rfl _ (y_loadT rfl rfl hl (fun _ => rfl) (fun _ => hx1) Tryd.underlying67 rfl sz67) ?_
      refine D_ 20 rfl rfl rfl _ (y_move rfl rfl) ?_
      refine D_ 21 rfl rfl rfl _ (y_move rfl rfl) ?_
      refine D_ 22 rfl rfl rfl _ (y_indexAddr rfl rfl rfl Tryd.underlying57 sz67 (fun hg => hm.isSome (by omega)) (fun _ => by omega)) ?_
      refine D_ 23 rfl rfl rfl _ (y_loadT rfl rfl hm (fun _ => rfl) (fun _ => hy1) Tryd.underlying67 rfl sz67) ?_
      refine D_ 24 rfl rfl rfl _ (y_as (v' := .bool (!(Frm.eqB a b))) (by simp [Frm.eqB, str]) (y_bin rfl rfl rfl (fun _ => b_neqA (rs := [_, _, _, _, _, _]) Tryd.underlying67 (by kernel_rfl) (by kernel_rfl) ⟨by decide, ⟨_, Tryd.underlying9, rfl, _, _, rfl, rfl, rfl⟩, by decide, ⟨_, Tryd.underlying9, rfl, _, _, rfl, rfl, rfl⟩, by decide, ⟨_, Tryd.underlying9, rfl, _, _, rfl, rfl, rfl⟩, by decide, ⟨_, Tryd.underlying3, rfl, _, _, rfl, rfl, rfl⟩, by decide, ⟨_, Tryd.underlying3, rfl, _, _, rfl, rfl, rfl⟩, by decide, ⟨_, Tryd.underlying4, rfl, _, _, rfl, rfl, rfl⟩, trivial⟩))) ?_
      refine D_go (fun _ _ h => h) ?_
      refine T_cond rfl (fun h24 => ?_) (fun h24 => ?_)
      · skip
        have h24e : Frm.eqB a b = false := by simpa using h24
        refine T_seq ?_
        refine T_region ?_
        refine S_ 4 rfl rfl rfl _ (y_assign rfl rfl) ?_
        refine S_go (fun _ _ h => h) ?_
        refine T_ret (fun a w hF hM => hRb a w (post1 rfl rfl (fun w hM => ?_) a w hF hM))
        exact ⟨by rw [hp2, hx2, hy2, eqLB, h24e, Bool.false_and], hM.below⟩
      · skip
        have h24e : Frm.eqB a b = true := by simpa using h24
        refine T_skip_go (fun _ _ h => h) ?_
        refine T_region ?_
        refine S_ 25 rfl rfl rfl _ (y_bin rfl rfl rfl (fun hg => b_add (by omega))) ?_
        refine S_ 13 rfl rfl rfl _ (y_move rfl rfl) ?_
        refine S_nil (nextK1 (kf := [(4, 5), (13, 25)]) (kl := [(4, 5), (13, 25)]) (i + 1) (by repeat (first | exact kf_nil | (apply kf_in; focus rfl) | (apply kf_out; focus rfl))) (by repeat (first | exact kl_nil | exact kl_rest (by assumption) rfl | (apply kl_in; focus rfl) | (apply kl_out; focus rfl))) ?_ ?_ ?_ ?_)
        · omega
        · exact ⟨by omega, by rw [hp2, hx2, hy2, eqLB, h24e, Bool.true_and]⟩
        · exact ⟨rfl, trivial⟩
        · exact trivial
    · try simp only [decide_eq_true_eq, decide_eq_false_iff_not, Bool.or_eq_true, Bool.or_eq_false_iff, Bool.and_eq_true, Bool.and_eq_false_iff, Bool.not_eq_true', Bool.not_eq_false', Bool.not_eq_true, Bool.not_eq_false, Bool.not_true, Bool.not_false, Int.not_lt, Int.not_le, not_or, not_and, Classical.not_not] at h14
      refine T_exit_go (fun _ _ h => h) ?_
      refine T_seq ?_
      refine T_region ?_
      refine S_ 4 rfl rfl rfl _ (y_assign rfl rfl) ?_
      refine S_go (fun _ _ h => h) ?_
      refine T_ret (fun a w hF hM => hRb a w (post1 rfl rfl (fun w hM => ?_) a w hF hM))
      exact ⟨by rw [hp2, hl.end (by omega), hm.end (by omega)]; rfl, hM.below⟩
theorem eqFr_refl : ∀ l : List Frm, eqLB Frm.eqB l l = true
  | [] => rfl
  | a :: r => by rw [eqLB, eqFr_refl r, (Frm.eqB_iff a a).2 rfl]; rfl
/-! ### The plain law -/
theorem plOf_nil (ad : Int) (first : Bool) (ms : List SMod) : plOf ad first ms [] = ([], []) := by
  unfold plOf
  split
  · rfl
  · rfl
theorem resAll_nil (ms : List SMod) : ∀ (l : List Frm) (b : Bool), resAll ms [] b l = l
  | [], _ => rfl
  | f :: r, b => by rw [resAll, resOf, plOf_nil, resAll_nil ms r]; rfl
def bareF (f : Frm) : Frm := { f with ad := -1 }
theorem resAll_bare (ms : List SMod) (ts : List Tab) : ∀ (l : List Frm) (b : Bool), resAll ms ts b (l.map bareF) = l.map bareF
  | [], _ => rfl
  | f :: r, b => by
    have e : plOf (bareF f).ad b ms ts = ([], []) := if_pos (Or.inl rfl)
    rw [List.map_cons, resAll, resOf, e, resAll_bare ms ts r]; rfl
theorem resAll_len (ms : List SMod) (ts : List Tab) : ∀ (l : List Frm) (b : Bool), l.length ≤ (resAll ms ts b l).length
  | [], _ => Nat.le_refl _
  | f :: r, b => by
    have h1 : 1 ≤ (resOf b f ms ts).length := by
      unfold resOf
      split
      · simp
      · rw [List.length_map]; omega
    have h2 := resAll_len ms ts r false
    rw [resAll, List.length_append, List.length_cons]; omega
theorem frmNo_bare {f : Frm} (h : frmNo f = 0) : frmNo (bareF f) = 0 := by
  unfold frmNo at h ⊢
  show (if wordsNo f.m f.f f.fi ≠ 0 then wordsNo f.m f.f f.fi else if (decide (f.ln < 0) || decide (9999999 < f.ln) || (decide ((-1 : Int) < -1) || decide ((281474976710655 : Int) < -1))) = true then 2 else if f.ln ≠ 0 ∧ f.fi = [] then 1 else 0) = 0
  split at h
  · rename_i h1; exact absurd h h1
  rename_i h1
  rw [if_neg h1]
  split at h
  · cases h
  rename_i h2
  rw [if_neg (by simp at h2 ⊢; omega)]
  exact h
theorem frmsNo_bare : ∀ l : List Frm, frmsNo l = 0 → frmsNo (l.map bareF) = 0
  | [], _ => rfl
  | f :: r, h => by
    unfold frmsNo at h
    split at h
    · rename_i h1; exact absurd h h1
    rename_i h1
    rw [List.map_cons, frmsNo, if_neg (by simpa using frmNo_bare (by simpa using h1))]
    exact frmsNo_bare r h
def ts0 : Sl Tab := ⟨none, 0, 0, []⟩
theorem all_ts0 {fs : Sl Frm} {ms : Sl SMod} {ts : Sl Tab} (h : allNo fs ms ts = 0) : allNo fs ms ts0 = 0 := by
  obtain ⟨h1, h⟩ := fst_zero h
  obtain ⟨h2, _⟩ := fst_zero h
  exact fst_b h1 (fst_b h2 rfl)
theorem all_bare {fs gs : Sl Frm} {ms : Sl SMod} {ts : Sl Tab} (hq : gs.q = fs.q) (hl : gs.l = fs.l.map bareF) (h : allNo fs ms ts = 0) : allNo gs ms ts = 0 := by
  obtain ⟨h1, h⟩ := fst_zero h
  obtain ⟨h3, h4⟩ := le_of_ite h1
  refine fst_b ?_ h
  rw [framesNo, if_neg (by rw [hq]; exact h3), hl]
  exact frmsNo_bare _ h4
theorem missOf_none {ms : List SMod} {ts : List Tab} : ∀ (l : List Frm) (out : List (List UInt8)), (∀ s ∈ out, ts.any (Tab.hasId s) = false) → ∀ s ∈ missOf ms ts l out, ts.any (Tab.hasId s) = false
  | [], out, h => h
  | f :: r, out, h => by
    unfold missOf
    split
    · exact missOf_none r out h
    split
    · rename_i h2
      refine missOf_none r _ fun s hs => ?_
      rcases List.mem_append.1 hs with hs | hs
      · exact h s hs
      · rw [List.mem_singleton.1 hs]
        simp only [Bool.and_eq_true, Bool.not_eq_true'] at h2
        exact h2.2
    · exact missOf_none r out h
theorem missOf_len {ms : List SMod} {ts : List Tab} : ∀ (l : List Frm) (out : List (List UInt8)), (missOf ms ts l out).length ≤ out.length + l.length
  | [], out => Nat.le_refl _
  | f :: r, out => by
    unfold missOf
    split
    · refine Nat.le_trans (missOf_len r _) ?_
      rw [List.length_cons]; omega
    split
    · refine Nat.le_trans (missOf_len r _) ?_
      simp only [List.length_append, List.length_cons, List.length_nil]; omega
    · refine Nat.le_trans (missOf_len r _) ?_
      rw [List.length_cons]; omega
theorem missOut_len (fs : Sl Frm) (ms : Sl SMod) (ts : Sl Tab) : (missOut fs ms ts).length ≤ fs.l.length := by
  unfold missOut
  split
  · have := missOf_len (ms := ms.l) (ts := ts.l) fs.l []
    simpa using this
  · simp
theorem miss_any (fs : Sl Frm) (ms : Sl SMod) (ts : Sl Tab) : ts.l.any (fun t => decide (t.id ∈ missOut fs ms ts)) = false := by
  rw [List.any_eq_false]
  intro t ht hm
  have hm : t.id ∈ missOut fs ms ts := of_decide_eq_true hm
  unfold missOut at hm
  split at hm
  · have := missOf_none fs.l [] (fun s hs => by cases hs) t.id hm
    rw [List.any_eq_false] at this
    exact this t ht (by simp [Tab.hasId])
  · cases hm
/-! ### The walk -/
theorem resolved1_any (t : Tab) (a1 : Addr) (m : Sl (List UInt8)) (w : World) (hm : m.Ok strEnc 1 w) (hq : m.q ≤ 4611686018427387904) (hb1 : a1.block < w.heap.size) (h1 : w.cell? a1 = some (.slice m.A m.q m.c)) :
    Calls Tryd.prog 36 #[.agg t.enc.toArray, .pointer (some a1)] w fun e w' => e = .returned (.bool (decide (t.id ∈ m.l))) ∧ Below w.heap.size w w' := by
  refine enter_args (args := [.agg #[str t.id, .int .i64 t.size, .slice t.fi.A t.fi.q t.fi.c, .slice t.fu.A t.fu.q t.fu.c, .slice t.ro.A t.ro.q t.ro.c, .slice t.ca.A t.ca.q t.ca.c], .pointer (some a1)]) (F := _) Tryd.func36 rfl Tryd.ntmps36 rfl rfl ?_
  intro Rb hRb hRn
  refine T_seq ?_
  refine T_region ?_
  refine S_box 2 2 rfl rfl rfl rfl rfl ?_
  intro b2
  refine S_ 3 rfl rfl rfl _ (y_assign rfl rfl) ?_
  refine S_go (fun _ _ h => h) ?_
  refine T_seq ?_
  refine T_region ?_
  refine S_ 4 rfl rfl rfl _ (y_load_far rfl rfl h1 hb1 Tryd.underlying22 rfl) ?_
  refine S_ 5 rfl rfl rfl _ (y_fieldAddr rfl rfl fa27_0) ?_
  refine S_ 6 rfl rfl rfl _ (y_load 2 rfl rfl rfl rfl Tryd.underlying9 rfl) ?_
  refine S_ 7 rfl rfl rfl _ (y_call rfl rfl rfl cf37 (fun hg w hM => ContainsS_any _ _ _ _ _ w (hm.t.below hM.below) hq)) ?_
  refine S_ 3 rfl rfl rfl _ (y_assign rfl rfl) ?_
  refine S_go (fun _ _ h => h) ?_
  refine T_ret (fun a w hF hM => hRb a w (post1 rfl rfl (fun w hM => ?_) a w hF hM))
  exact ⟨rfl, hM.below⟩
theorem asks_resolved {b1 : Nat} {m : Sl (List UInt8)} {w : World} (hm : m.Ok strEnc 1 w) (hq : m.q ≤ 4611686018427387904) (h1 : w.cell? ⟨b1, 0, none⟩ = some (.slice m.A m.q m.c) ∧ b1 < w.heap.size) :
    Asks Tryd.prog Tab.enc w 36 #[.pointer (some ⟨b1, 0, none⟩)] (fun t => decide (t.id ∈ m.l)) :=
  ⟨cf36, fun t w' hb => resolved1_any t ⟨b1, 0, none⟩ m w' (hm.below hb) hq (Nat.lt_of_lt_of_le h1.2 hb.size) ((hb.cell h1.2).trans h1.1)⟩
theorem Resolve_as (fs : Sl Frm) (ms : Sl SMod) (ts : Sl Tab) (l : List Frm) (w : World) (hfs : FrmsOk w fs) (hms : ModsOk w ms) (hts : TabsOk w ts) (h0 : resNo fs ms ts = 0) (hl : resOut fs ms ts = l) :
    Calls Tryd.prog 28 #[.slice fs.A fs.q fs.c, .slice ms.A ms.q ms.c, .slice ts.A ts.q ts.c] w fun e w' => ∃ A c, e = .returned (.tuple #[.slice A l.length c, .int .i64 0]) ∧
      w'.ownsRow w.heap.size 67 6 (.slice A l.length c) l.length (l.flatMap Frm.enc) ∧ Below w.heap.size w w' := by
  have h := Resolve_any fs ms ts w hfs hms hts
  rw [h0, hl] at h
  exact h
theorem SlT.own {α : Type} {enc : α → List Value} {size : Nat} {e : TypeId} {w0 w : World} {L : HL} {i : Nat} {A : Option Addr} {c q : Nat} {l : List α} (hM : Mem w0 L w) (hq : l.length = q) (hL : L.get i = some (.own e size (.slice A q c) q (l.flatMap enc))) : SlT enc size w A q l := (own_ok2 hM hq hL).t
theorem ts0_ok (w : World) : TabsOk w ts0 := by
  have hM := (Mem.start w).add 0 (.own 27 6 (.slice none 0 0) 0 []) rfl (World.ownsRow_nil _ _ _ _)
  exact ⟨own_ok2 (l := []) (i := 0) hM rfl rfl, by decide, fun t h => by cases h⟩
set_option maxHeartbeats 800000 in
theorem SymbolResolved_any (fs : Sl Frm) (ms : Sl SMod) (ts : Sl Tab) (w : World) (hfs : FrmsOk w fs) (hms : ModsOk w ms) (hts : TabsOk w ts) :
    Calls Tryd.prog 7 #[.slice fs.A fs.q fs.c, .slice ms.A ms.q ms.c, .slice ts.A ts.q ts.c] w fun e w' => e = .returned (.bool true) ∧ Below w.heap.size w w' := by
  have hft := hfs.ok.t
  have hfq := hfs.q
  have hfl := hft.len
  refine enter_args (args := [.slice fs.A fs.q fs.c, .slice ms.A ms.q ms.c, .slice ts.A ts.q ts.c]) (F := _) Tryd.func7 rfl Tryd.ntmps7 rfl rfl ?_
  intro Rb hRb hRn
  refine T_seq ?_
  refine T_region ?_
  refine S_ 6 rfl rfl rfl _ (y_assign rfl rfl) ?_
  refine S_go (fun _ _ h => h) ?_
  refine T_seq ?_
  refine T_seq ?_
  refine T_region ?_
  refine S_ 15 rfl rfl rfl _ (y_call rfl rfl rfl cf17 (fun _ w _ => awake_any w)) ?_
  refine S_ 16 rfl rfl rfl _ (y_not rfl rfl) ?_
  refine S_go (fun _ _ h => h) ?_
  refine T_cond rfl (fun h16 => ?_) (fun h16 => ?_)
  · skip
    simp at h16
  · skip
    refine T_skip_go (fun _ _ h => h) ?_
    refine T_seq ?_
    refine T_region ?_
    refine S_ 18 rfl rfl rfl _ (y_move rfl rfl) ?_
    refine S_ 19 rfl rfl rfl _ (y_move rfl rfl) ?_
    refine S_ 20 rfl rfl rfl _ (y_move rfl rfl) ?_
    refine S_callOwn 21 21 rfl rfl rfl rfl rfl rfl rfl cf28 (fun A c => .tuple #[.slice A (resOut fs ms ts).length c, .int .i64 (resNo fs ms ts)]) 67 6 ((resOut fs ms ts).length) ((resOut fs ms ts).flatMap Frm.enc) (fun w hM => Resolve_any fs ms ts w (hfs.below hM.below) (hms.below hM.below) (hts.below hM.below)) ?_
    intro A21 c21
    refine S_ 17 rfl rfl rfl _ (y_move rfl rfl) ?_
    refine S_ 22 rfl rfl rfl _ (y_extract rfl rfl rfl) ?_
    refine S_ 23 rfl rfl rfl _ (y_extract rfl rfl rfl) ?_
    refine S_ 7 rfl rfl rfl _ (y_assign rfl rfl) ?_
    refine S_ 8 rfl rfl rfl _ (y_assign rfl rfl) ?_
    refine S_go (fun _ _ h => h) ?_
    refine T_seq ?_
    refine T_seq ?_
    refine T_region ?_
    refine S_ 24 rfl rfl rfl _ (y_move rfl rfl) ?_
    refine S_ 25 rfl rfl rfl _ (y_bin rfl rfl rfl (fun _ => b_neq)) ?_
    refine S_go (fun _ _ h => h) ?_
    refine T_cond rfl (fun h25 => ?_) (fun h25 => ?_)
    · try simp only [decide_eq_true_eq, decide_eq_false_iff_not, Bool.or_eq_true, Bool.or_eq_false_iff, Bool.and_eq_true, Bool.and_eq_false_iff, Bool.not_eq_true', Bool.not_eq_false', Bool.not_eq_true, Bool.not_eq_false, Bool.not_true, Bool.not_false, Int.not_lt, Int.not_le, not_or, not_and, Classical.not_not] at h25
      refine T_seq ?_
      refine T_region ?_
      refine S_ 6 rfl rfl rfl _ (y_assign rfl rfl) ?_
      refine S_go (fun _ _ h => h) ?_
      refine T_ret (fun a w hF hM => hRb a w (post1 rfl rfl (fun w hM => ?_) a w hF hM))
      exact ⟨rfl, hM.below⟩
    · try simp only [decide_eq_true_eq, decide_eq_false_iff_not, Bool.or_eq_true, Bool.or_eq_false_iff, Bool.and_eq_true, Bool.and_eq_false_iff, Bool.not_eq_true', Bool.not_eq_false', Bool.not_eq_true, Bool.not_eq_false, Bool.not_true, Bool.not_false, Int.not_lt, Int.not_le, not_or, not_and, Classical.not_not] at h25
      have ha := (fst_zero h25).1
      obtain ⟨hq2, _⟩ := allNo_zero ha
      have r0 : resNo fs ms ts0 = 0 := fst_b (all_ts0 ha) (if_neg (by rw [show ts0.l = [] from rfl, resAll_nil]; omega))
      have o0 : resOut fs ms ts0 = fs.l := by rw [resOut, if_pos r0]; exact resAll_nil _ _ _
      have o2 : fs.l.length ≤ (resOut fs ms ts).length := by rw [resOut, if_pos h25]; exact resAll_len _ _ _ _
      refine T_skip_go (fun _ _ h => h) ?_
      refine T_seq ?_
      refine T_region ?_
      refine S_ 27 rfl rfl rfl _ (y_move rfl rfl) ?_
      refine S_ 28 rfl rfl rfl _ (y_move rfl rfl) ?_
      refine S_callOwn 29 29 rfl rfl rfl rfl rfl rfl rfl cf28 (fun A c => .tuple #[.slice A (fs.l).length c, .int .i64 (0)]) 67 6 ((fs.l).length) ((fs.l).flatMap Frm.enc) (fun w hM => Resolve_as fs ms ts0 fs.l w (hfs.below hM.below) (hms.below hM.below) (ts0_ok w) r0 o0) ?_
      intro A29 c29
      refine S_ 26 rfl rfl rfl _ (y_move rfl rfl) ?_
      refine S_ 30 rfl rfl rfl _ (y_extract rfl rfl rfl) ?_
      refine S_ 31 rfl rfl rfl _ (y_extract rfl rfl rfl) ?_
      refine S_ 9 rfl rfl rfl _ (y_assign rfl rfl) ?_
      refine S_ 8 rfl rfl rfl _ (y_assign rfl rfl) ?_
      refine S_go (fun _ _ h => h) ?_
      refine T_seq ?_
      refine T_seq ?_
      refine T_region ?_
      refine S_ 32 rfl rfl rfl _ (y_move rfl rfl) ?_
      refine S_ 33 rfl rfl rfl _ (y_bin rfl rfl rfl (fun _ => b_neq)) ?_
      refine S_ 34 rfl rfl rfl _ (y_move rfl rfl) ?_
      refine Sg_ 35 rfl rfl rfl rfl rfl rfl _ (y_move rfl rfl) ?_
      refine Sg_ 36 rfl rfl rfl rfl rfl rfl _ (y_move rfl rfl) ?_
      refine Sg_ 37 rfl rfl rfl rfl rfl rfl _ (y_call rfl rfl rfl cf34 (fun hg w hM => EqualFr_any _ _ _ _ _ _ _ _ w (SlT.own hM rfl (i := 29) rfl) (hft.below hM.below) (by omega) hfq)) ?_
      refine Sg_ 38 rfl rfl rfl rfl rfl rfl _ (y_not rfl rfl) ?_
      refine S_ 39 rfl rfl rfl _ (y_or rfl rfl rfl) ?_
      refine S_ 40 rfl rfl rfl _ (y_move rfl rfl) ?_
      refine Sg_ 41 rfl rfl rfl rfl rfl rfl _ (y_move rfl rfl) ?_
      refine Sg_ 42 rfl rfl rfl rfl rfl rfl _ (y_len_slice rfl rfl Tryd.underlying57) ?_
      refine Sg_ 43 rfl rfl rfl rfl rfl rfl _ (y_move rfl rfl) ?_
      refine Sg_ 44 rfl rfl rfl rfl rfl rfl _ (y_len_slice rfl rfl Tryd.underlying57) ?_
      refine Sg_ 45 rfl rfl rfl rfl rfl rfl _ (y_bin rfl rfl rfl (fun _ => b_lss)) ?_
      refine S_ 46 rfl rfl rfl _ (y_or rfl rfl rfl) ?_
      refine S_go (fun _ _ h => h) ?_
      refine T_cond rfl (fun h46 => ?_) (fun h46 => ?_)
      · skip
        simp [eqFr_refl] at h46; omega
      · skip
        refine T_skip_go (fun _ _ h => h) ?_
        refine T_seq ?_
        refine T_region ?_
        refine S_nilSlice 10 (e := 67) (size := 6) ?_
        refine S_ 10 rfl rfl rfl _ (y_assign rfl rfl) ?_
        refine S_go (fun _ _ h => h) ?_
        refine T_seq ?_
        refine T_seq ?_
        refine T_region ?_
        refine S_ 47 rfl rfl rfl _ (y_move rfl rfl) ?_
        refine S_ 48 rfl rfl rfl _ (y_len_slice rfl rfl Tryd.underlying57) ?_
        refine S_ 49 rfl rfl rfl _ (y_move rfl rfl) ?_
        refine S_go (fun _ _ h => h) ?_
        refine T_block ?_
        refine T_loopK5 (kf := [(10, 10), (12, 12), (49, 58)]) (kl := [(10, 10), (12, 12), (49, 58)]) (fun (i : Nat) (out : List Frm) (q : Nat) (A : Option Addr) (c : Nat) => [(49, true, .int .i64 (i : Int)), (10, true, .slice A q c)]) (fun (i : Nat) (out : List Frm) (q : Nat) (A : Option Addr) (c : Nat) => [(10, .own 67 6 (.slice A q c) q (out.flatMap Frm.enc))]) (fun (i : Nat) (out : List Frm) (q : Nat) (A : Option Addr) (c : Nat) => i ≤ fs.q ∧ q ≤ i ∧ out.length = q ∧ fs.l.map bareF = out ++ (fs.l.drop i).map bareF) (fun (i : Nat) (out : List Frm) (q : Nat) (A : Option Addr) (c : Nat) => fs.q - i) 0 [] 0 none 0 (by repeat (first | exact kf_nil | (apply kf_in; focus rfl) | (apply kf_out; focus rfl))) (by repeat (first | exact kl_nil | exact kl_rest (by assumption) rfl | (apply kl_in; focus rfl) | (apply kl_out; focus rfl))) ?_ ?_ ?_ ?_
        · exact ⟨by omega, by omega, rfl, rfl⟩
        · exact ⟨rfl, rfl, trivial⟩
        · exact ⟨rfl, trivial⟩
        rintro i out q A c ⟨hp1, hp2, hp3, hp4⟩
        refine T_seq ?_
        refine T_region ?_
        refine S_ 50 rfl rfl rfl _ (y_bin rfl rfl rfl (fun _ => b_lss)) ?_
        refine S_go (fun _ _ h => h) ?_
        refine T_seq ?_
        refine T_cond rfl (fun h50 => ?_) (fun h50 => ?_)
        · try simp only [decide_eq_true_eq, decide_eq_false_iff_not, Bool.or_eq_true, Bool.or_eq_false_iff, Bool.and_eq_true, Bool.and_eq_false_iff, Bool.not_eq_true', Bool.not_eq_false', Bool.not_eq_true, Bool.not_eq_false, Bool.not_true, Bool.not_false, Int.not_lt, Int.not_le, not_or, not_and, Classical.not_not] at h50
          obtain ⟨f, hx1, hx2⟩ := hft.at (i := i) (by omega)
          refine T_skip_go (fun _ _ h => h) ?_
          refine T_seq ?_
          refine T_block ?_
          refine T_seq ?_
          refine T_region ?_
          refine S_ 51 rfl rfl rfl _ (y_indexAddr rfl rfl rfl Tryd.underlying57 sz67 (fun hg => hft.isSome (by omega)) (fun _ => by omega)) ?_
          refine S_ 52 rfl rfl rfl _ (y_loadT rfl rfl hft (fun _ => rfl) (fun _ => hx1) Tryd.underlying67 rfl sz67) ?_
          refine S_alloc 12 12 rfl rfl rfl rfl z67 ?_
          intro b12
          refine S_store 12 rfl rfl rfl rfl rfl rfl sz67 rfl rfl ?_
          refine S_go (fun _ _ h => h) ?_
          refine T_seq ?_
          refine T_region ?_
          refine S_ 53 rfl rfl rfl _ (y_fieldAddr rfl rfl fa67_4) ?_
          refine S_store 12 rfl rfl rfl rfl rfl rfl sz3 rfl rfl ?_
          refine S_go (fun _ _ h => h) ?_
          refine T_region ?_
          refine S_ 54 rfl rfl rfl _ (y_move rfl rfl) ?_
          refine S_ 55 rfl rfl rfl _ (y_loadA 12 rfl rfl rfl Tryd.underlying67 rfl sz67) ?_
          refine S_buildSlice 56 56 rfl rfl rfl rfl rfl Tryd.underlying57 inf67 rfl (by decide) (by decide) rfl rfl (by decide) rfl (_) rfl ?_
          intro b56
          obtain ⟨i57, hi57, hz57, hs57, hy57⟩ := info_parts inf67
          refine S_append 57 10 56 rfl rfl rfl rfl rfl rfl rfl rfl Tryd.underlying57 hi57 hz57 hs57 hy57 rfl (by decide) (by decide) rfl ?_ ?_ (q + 1) ((out ++ [bareF f]).flatMap Frm.enc) ?_ ?_ ?_
          · (simp only [maxLen]; omega)
          · omega
          · rfl
          · simp [List.flatMap_append, Frm.enc, bareF]; rfl
          intro A57 c57
          refine S_ 10 rfl rfl rfl _ (y_assign rfl rfl) ?_
          refine S_go (fun _ _ h => h) ?_
          refine T_region ?_
          refine S_ 58 rfl rfl rfl _ (y_bin rfl rfl rfl (fun hg => b_add (by omega))) ?_
          refine S_ 49 rfl rfl rfl _ (y_move rfl rfl) ?_
          refine S_nil (nextK5 (kf := [(10, 10), (12, 12), (49, 58)]) (kl := [(10, 10), (12, 12), (49, 58)]) (i + 1) (out ++ [bareF f]) (q + 1) A57 c57 (by repeat (first | exact kf_nil | (apply kf_in; focus rfl) | (apply kf_out; focus rfl))) (by repeat (first | exact kl_nil | exact kl_rest (by assumption) rfl | (apply kl_in; focus rfl) | (apply kl_out; focus rfl))) ?_ ?_ ?_ ?_)
          · omega
          · exact ⟨by omega, by omega, by simp [hp3], by rw [hp4, hx2, List.map_cons, List.append_assoc]; rfl⟩
          · exact ⟨rfl, rfl, trivial⟩
          · exact ⟨rfl, trivial⟩
        · try simp only [decide_eq_true_eq, decide_eq_false_iff_not, Bool.or_eq_true, Bool.or_eq_false_iff, Bool.and_eq_true, Bool.and_eq_false_iff, Bool.not_eq_true', Bool.not_eq_false', Bool.not_eq_true, Bool.not_eq_false, Bool.not_true, Bool.not_false, Int.not_lt, Int.not_le, not_or, not_and, Classical.not_not] at h50
          have he : out = fs.l.map bareF := by rw [hp4, hft.end (by omega)]; simp
          have hq3 : q = fs.q := by rw [← hp3, he, List.length_map, hfl]
          have a1 : allNo ⟨A, q, c, out⟩ ms ts = 0 := all_bare hq3 he ha
          have r2 : resAll ms.l ts.l true out = out := by rw [he]; exact resAll_bare _ _ _ _
          have r1 : resNo ⟨A, q, c, out⟩ ms ts = 0 := fst_b a1 (if_neg (by show ¬ (200 : Int) < ((resAll ms.l ts.l true out).length : Int); rw [r2]; omega))
          have o1 : resOut ⟨A, q, c, out⟩ ms ts = out := by rw [resOut, if_pos r1]; exact r2
          have hn2 : ∀ f ∈ out, f.m.length ≤ 4611686018427387904 ∧ f.f.length ≤ 4611686018427387904 ∧ f.fi.length ≤ 4611686018427387904 := by
            rw [he]
            intro f hf
            obtain ⟨g, hg, rfl⟩ := List.mem_map.1 hf
            exact hfs.n g hg
          refine T_exit_go (fun _ _ h => h) ?_
          refine T_seq ?_
          refine T_region ?_
          refine S_ 60 rfl rfl rfl _ (y_move rfl rfl) ?_
          refine S_ 61 rfl rfl rfl _ (y_move rfl rfl) ?_
          refine S_ 62 rfl rfl rfl _ (y_move rfl rfl) ?_
          refine S_callOwn 63 63 rfl rfl rfl rfl rfl rfl rfl cf28 (fun A c => .tuple #[.slice A (out).length c, .int .i64 (0)]) 67 6 ((out).length) ((out).flatMap Frm.enc) (fun w hM => Resolve_as ⟨A, q, c, out⟩ ms ts out w ⟨own_ok2 hM hp3 (i := 10) rfl, by show q ≤ _; omega, hn2⟩ (hms.below hM.below) (hts.below hM.below) r1 o1) ?_
          intro A63 c63
          refine S_ 59 rfl rfl rfl _ (y_move rfl rfl) ?_
          refine S_ 64 rfl rfl rfl _ (y_extract rfl rfl rfl) ?_
          refine S_ 65 rfl rfl rfl _ (y_extract rfl rfl rfl) ?_
          refine S_ 13 rfl rfl rfl _ (y_assign rfl rfl) ?_
          refine S_ 8 rfl rfl rfl _ (y_assign rfl rfl) ?_
          refine S_go (fun _ _ h => h) ?_
          refine T_seq ?_
          refine T_seq ?_
          refine T_region ?_
          refine S_ 66 rfl rfl rfl _ (y_move rfl rfl) ?_
          refine S_ 67 rfl rfl rfl _ (y_bin rfl rfl rfl (fun _ => b_neq)) ?_
          refine S_ 68 rfl rfl rfl _ (y_move rfl rfl) ?_
          refine Sg_ 69 rfl rfl rfl rfl rfl rfl _ (y_move rfl rfl) ?_
          refine Sg_ 70 rfl rfl rfl rfl rfl rfl _ (y_move rfl rfl) ?_
          refine Sg_ 71 rfl rfl rfl rfl rfl rfl _ (y_call rfl rfl rfl cf34 (fun hg w hM => EqualFr_any _ _ _ _ _ _ _ _ w (SlT.own hM rfl (i := 63) rfl) (SlT.own hM hp3 (i := 10) rfl) (by omega) (by omega))) ?_
          refine Sg_ 72 rfl rfl rfl rfl rfl rfl _ (y_not rfl rfl) ?_
          refine S_ 73 rfl rfl rfl _ (y_or rfl rfl rfl) ?_
          refine S_go (fun _ _ h => h) ?_
          refine T_cond rfl (fun h73 => ?_) (fun h73 => ?_)
          · skip
            simp [eqFr_refl] at h73
          · skip
            refine T_skip_go (fun _ _ h => h) ?_
            refine T_seq ?_
            refine T_region ?_
            refine S_ 75 rfl rfl rfl _ (y_move rfl rfl) ?_
            refine S_ 76 rfl rfl rfl _ (y_move rfl rfl) ?_
            refine S_ 77 rfl rfl rfl _ (y_move rfl rfl) ?_
            refine S_callOwn 78 78 rfl rfl rfl rfl rfl rfl rfl cf29 (fun A c => .tuple #[.slice A (missOut fs ms ts).length c, .int .i64 (allNo fs ms ts)]) 9 1 ((missOut fs ms ts).length) ((missOut fs ms ts).flatMap strEnc) (fun w hM => Missing_any fs ms ts w (hfs.below hM.below) (hms.below hM.below) (hts.below hM.below)) ?_
            intro A78 c78
            refine S_ 74 rfl rfl rfl _ (y_move rfl rfl) ?_
            refine S_ 79 rfl rfl rfl _ (y_extract rfl rfl rfl) ?_
            refine S_ 80 rfl rfl rfl _ (y_extract rfl rfl rfl) ?_
            refine S_alloc 14 14 rfl rfl rfl rfl z22 ?_
            intro b14
            refine S_store 14 rfl rfl rfl rfl rfl rfl sz22 rfl rfl ?_
            refine S_ 8 rfl rfl rfl _ (y_assign rfl rfl) ?_
            refine S_go (fun _ _ h => h) ?_
            refine T_seq ?_
            refine T_seq ?_
            refine T_region ?_
            refine S_ 81 rfl rfl rfl _ (y_move rfl rfl) ?_
            refine S_ 82 rfl rfl rfl _ (y_bin rfl rfl rfl (fun _ => b_neq)) ?_
            refine S_go (fun _ _ h => h) ?_
            refine T_cond rfl (fun h82 => ?_) (fun h82 => ?_)
            · try simp only [decide_eq_true_eq, decide_eq_false_iff_not, Bool.or_eq_true, Bool.or_eq_false_iff, Bool.and_eq_true, Bool.and_eq_false_iff, Bool.not_eq_true', Bool.not_eq_false', Bool.not_eq_true, Bool.not_eq_false, Bool.not_true, Bool.not_false, Int.not_lt, Int.not_le, not_or, not_and, Classical.not_not] at h82
              exact absurd ha h82
            · try simp only [decide_eq_true_eq, decide_eq_false_iff_not, Bool.or_eq_true, Bool.or_eq_false_iff, Bool.and_eq_true, Bool.and_eq_false_iff, Bool.not_eq_true', Bool.not_eq_false', Bool.not_eq_true, Bool.not_eq_false, Bool.not_true, Bool.not_false, Int.not_lt, Int.not_le, not_or, not_and, Classical.not_not] at h82
              refine T_skip_go (fun _ _ h => h) ?_
              refine T_seq ?_
              refine T_region ?_
              refine S_ 83 rfl rfl rfl _ (y_move rfl rfl) ?_
              refine S_ 84 rfl rfl rfl _ (y_makeFunc rfl rfl rfl rfl rfl) ?_
              refine S_ 85 rfl rfl rfl _ (y_call rfl rfl rfl cf35 (fun hg w hM => ContainsFuncT_any _ _ _ _ _ _ _ w (hts.ok.t.below hM.below) hts.q (asks_resolved (m := ⟨A78, (missOut fs ms ts).length, c78, missOut fs ms ts⟩) (own_ok2 hM rfl (i := 78) rfl) (by show (missOut fs ms ts).length ≤ _; have := missOut_len fs ms ts; omega) (hM.box_cell (i := 14) rfl rfl)))) ?_
              refine S_ 86 rfl rfl rfl _ (y_not rfl rfl) ?_
              refine S_ 6 rfl rfl rfl _ (y_assign rfl rfl) ?_
              refine S_go (fun _ _ h => h) ?_
              refine T_ret (fun a w hF hM => hRb a w (post1 rfl rfl (fun w hM => ?_) a w hF hM))
              exact ⟨by rw [miss_any]; rfl, hM.below⟩
end Go.Proofs.YtofolhnecfkjkaaDoor
