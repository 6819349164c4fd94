/- Part 4, merged by a program. eventRead of the law, and the law EventTexts. Conditions: those of each theorem. Events opened: from the form's reading to 'Evt.Ok'. No condition. A world in which the listed tables of Go's hold what their text says, and what a row's condition says of the table of trailing noughts. No condition. A world in which the listed tables hold what their text says, and the two errors of strconv lie as their initialisers lay them. No condition. -/
import Derived.Test.YtgbldojgbpgjbaaGreatDoorZip
import Derived.Test.YtgbldojgbpgjbaaGreatDoorOpen
import Derived.Test.YtgbldojgbpgjbaaGreatDoorCards
import Derived.Test.YtgbldojgbpgjbaaGreatDoorTie
import Derived.Deep.DeepHandedRow
import Derived.Lib.LaidTab
import Derived.Stop.LaidErr
import Derived.ProofKit
import Derived.OpenShut
import Derived.Test.YtgbldojgbpgjbaaGreatDoorPk3
section
namespace Go.Proofs.YtgbldojgbpgjbaaGreatDoor
set_option linter.unusedSimpArgs false
set_option linter.unusedVariables false
set_option maxRecDepth 20000
open Go.RowKit Go.Eng
def intE1 (n : Int) : List Value := [.int .i64 n]
theorem efirst2_any (A : Option Addr) (c : Nat) (m k : Int) (w : World) (hl : SlT intE1 1 w A 2 [m, k]) : Calls Tryz.prog 57 #[.slice A 2 c] w fun e w' => e = .returned (.int .i64 (fst m k)) ∧ Below w.heap.size w w' := by
  refine enter_args (args := [.slice A 2 c]) (F := _) Tryz.func57 rfl Tryz.ntmps57 rfl rfl ?_
  intro Rb hRb hRn
  refine tx ?_
  refine sr 1 ?_
  refine sgs ?_
  refine tx ?_
  refine sr 1 ?_
  refine s1 (y_len_slice rfl rfl Tryz.underlying173) ?_
  refine sr 1 ?_
  refine sgo ?_
  refine T_block ?_
  refine lK1 (kf := [(2, 2), (4, 4), (7, 14)]) (kl := [(2, 2), (4, 4), (7, 14)]) (fun (i : Nat) => [(7, true, .int .i64 (i : Int))]) (fun (i : Nat) => []) (fun (i : Nat) => i ≤ 2 ∧ fst m k = (([m, k].drop i).find? (fun x => decide (x ≠ 0))).getD 0) (fun (i : Nat) => 2 - i) 0 ?_ ?_ ?_ ?_
  · exact ⟨by omega, by unfold fst; by_cases hm : m = 0 <;> by_cases hk : k = 0 <;> simp [hm, hk]⟩
  · exact ⟨rfl, trivial⟩
  · exact trivial
  rintro i ⟨hp1, hp2⟩
  refine tx ?_
  refine sr 1 ?_
  refine sgs ?_
  refine T_cond rfl ?_ ?_ <;> intro h8
  · try simp only [nrm] at h8
    obtain ⟨x, hx1, hx2⟩ := hl.at (i := i) (by omega)
    refine kgs ?_
    refine T_block ?_
    refine tx ?_
    refine s1 (y_indexAddr rfl rfl rfl Tryz.underlying173 sz30 (fun hg => hl.isSome (by omega)) (fun _ => by omega)) ?_
    refine s1 (y_loadT1 (val := (fun n : Int => Value.int .i64 n)) rfl rfl hl (fun _ => hx1) Tryz.underlying30 rfl) ?_
    refine sr 1 ?_
    refine sgx ?_
    refine sr 2 ?_
    refine sgo ?_
    refine T_cond rfl ?_ ?_ <;> intro h12
    · try simp only [nrm] at h12
      refine tx ?_
      refine sr 2 ?_
      refine sgo ?_
      refine tr1 hRb fun w hM => ?_
      exact ⟨by rw [hp2, hx2, List.find?_cons_of_pos (by simpa using h12)]; rfl, hM.below⟩
    try simp only [nrm] at h12
    refine kgr ?_
    refine s1 (y_bin rfl rfl rfl (fun hg => b_add (by omega))) ?_
    refine sr 1 ?_
    refine S_nil (nK1 (kf := [(2, 2), (4, 4), (7, 14)]) (kl := [(2, 2), (4, 4), (7, 14)]) (i + 1) ?_ ?_ ?_ ?_)
    · omega
    · exact ⟨by omega, by rw [hp2, hx2, List.find?_cons_of_neg (by simpa using h12)]⟩
    · exact ⟨rfl, trivial⟩
    · exact trivial
  try simp only [nrm] at h8
  refine egx ?_
  refine sr 1 ?_
  refine sgo ?_
  refine tr1 hRb fun w hM => ?_
  exact ⟨by rw [hp2, hl.end (by omega)]; rfl, hM.below⟩
theorem evt_ok {w : World} {h : Hd} {y : HdR} {A : Option Addr} {c : Nat} {l : List Flt} (hh : HdS 1000000 h) (h1 : h.ta.length ≤ 2000000) (h2 : h.cr.length ≤ 2000000) (h3 : l.length ≤ 1000000) (f1 : Sl.Ok Flt.enc 3 w ⟨A, l.length, c, l⟩) (f2 : Sl.Ok STag.enc 2 w ⟨y.A, h.ta.length, y.c, h.ta⟩) (f3 : Sl.Ok SCrumb.enc 3 w ⟨y.B, h.cr.length, y.d, h.cr⟩) (hf : ∀ f ∈ l, FltOk w f) : (evOf h y A c l).Ok w :=
  ⟨⟨f1, by show l.length ≤ _; omega, hf⟩, ⟨f2, by show h.ta.length ≤ _; omega, fun t ht => ⟨Nat.le_trans (hh.ta t ht).1 (by decide), Nat.le_trans (hh.ta t ht).2 (by decide)⟩⟩, ⟨f3, by show h.cr.length ≤ _; omega, fun t ht => ⟨Nat.le_trans (hh.cr t ht).1 (by decide), Nat.le_trans (hh.cr t ht).2 (by decide)⟩⟩, Nat.le_trans hh.id (by decide), Nat.le_trans hh.rel (by decide), Nat.le_trans hh.us (by decide)⟩
theorem hrN_in (h : Hd) (r : List UInt8) (n : Nat) : hrN (.inl (h, r, n)) = (h, n, r, 0) := rfl
theorem hrN_inr (n : Nat) : hrN (.inr n) = (hd0, n, [], 8) := rfl
theorem hrN_bad {x : (Hd × List UInt8 × Nat) ⊕ Nat} (h : ¬ (hrN x).2.2.2 = 0) : ∃ n, x = .inr n := by
  cases x with
  | inl y => exact absurd rfl h
  | inr n => exact ⟨n, rfl⟩
theorem hrN_ok {x : (Hd × List UInt8 × Nat) ⊕ Nat} (h : (hrN x).2.2.2 = 0) : ∃ hd r n, x = .inl (hd, r, n) := by
  cases x with
  | inl y => exact ⟨y.1, y.2.1, y.2.2, rfl⟩
  | inr n => exact absurd h (by rw [hrN_inr]; show ¬ (8 : Int) = 0; decide)
theorem readQ_no {s r : List UInt8} {h : Hd} {n : Nat} (hs1 : ¬ 1000000 < s.length) (hR : rdR s = .inl (h, r, n)) (h35 : ¬ sNo r = 8) (h42 : ¬ sNo r = 0) : readQ s = (0, fst (headNo h.id h.at_ h.lv) (sNo r), hd0, []) := by
  by_cases h43 : headNo h.id h.at_ h.lv = 0
  · rw [readQ_go hs1 hR h35 h43, if_neg h42, if_pos h42, h43]; rfl
  · rw [fst, if_pos h43, readQ, if_neg hs1, hR]; exact (if_neg h35).trans (if_pos h43)
theorem readQ_ev {s r : List UInt8} {h : Hd} {n : Nat} (hs1 : ¬ 1000000 < s.length) (hR : rdR s = .inl (h, r, n)) (h42 : sNo r = 0) : readQ s = if evP h (sL r) ≠ 0 then (0, evP h (sL r), hd0, []) else (0, 0, h, sL r) := by
  have h35 : ¬ sNo r = 8 := by rw [h42]; decide
  by_cases h43 : headNo h.id h.at_ h.lv = 0
  · rw [readQ_go hs1 hR h35 h43, if_pos h42]
  · have he : evP h (sL r) = headNo h.id h.at_ h.lv := if_pos h43
    rw [he, if_pos h43, readQ, if_neg hs1, hR]; exact (if_neg h35).trans (if_pos h43)
set_option maxRecDepth 8000 in
set_option maxHeartbeats 3200000 in
theorem eventRead_any {w0 : World} {K : HL} (hK : FromK K) (s : List UInt8) (hs : s.length ≤ 4611686018427387904) (w : World) (hM0 : Mem w0 ([] ++ K) w) :
    Calls Tryz.prog 17 #[str s] w fun e w' => ∃ z : EvR, e = .returned (.tuple #[(evOf (readQ s).2.2.1 z.y z.x.A z.x.c z.x.l).val, .int .i64 (((readQ s).1 : Nat) : Int), .int .i64 (readQ s).2.1]) ∧ EvOk w0 (readQ s).2.2.2 z ∧
      Mem w0 ([(900, .many z.x.rs), (904, flI z.x.A z.x.c z.x.l), (906, tgI z.y.A z.y.c (readQ s).2.2.1.ta), (907, crI z.y.B z.y.d (readQ s).2.2.1.cr)] ++ K) w' := by
  refine enterM_args (args := [str s]) (F := _) hM0 Tryz.func17 rfl Tryz.ntmps17 rfl rfl ?_
  intro Rb hRb hRn
  refine tx ?_
  refine S_alloc 2 2 rfl rfl rfl rfl z26 ?_
  intro b2
  refine sr 2 ?_
  refine sgs ?_
  refine tx ?_
  refine sr 1 ?_
  refine s1 (y_len_str rfl rfl Tryz.underlying9) ?_
  refine sr 1 ?_
  refine sgo ?_
  refine T_cond rfl ?_ ?_ <;> intro h14
  · try simp only [nrm] at h14
    have hr : readQ s = (0, 4, hd0, []) := if_pos (by omega)
    refine tx ?_
    refine s1 (y_build (zv := .agg #[.string ⟨#[]⟩, .int .i64 0, .int .i64 0, .slice none 0 0, .slice none 0 0, .slice none 0 0, .string ⟨#[]⟩, .string ⟨#[]⟩, .int .i64 0]) (pl := [(0, 1), (1, 1), (2, 1), (3, 1), (4, 1), (5, 1), (6, 1), (7, 1), (8, 1)]) (out := [.string ⟨#[]⟩, .int .i64 0, .int .i64 0, .slice none 0 0, .slice none 0 0, .slice none 0 0, .string ⟨#[]⟩, .string ⟨#[]⟩, .int .i64 0]) rfl rfl Tryz.underlying26 z26 (by kernel_rfl) rfl) ?_
    refine S_store 2 rfl rfl rfl rfl rfl rfl sz26 rfl rfl ?_
    refine sr 2 ?_
    refine sgo ?_
    refine T_ret (fun a w hF hM => hRb a w (post_cell2 2 rfl rfl rfl rfl rfl Tryz.underlying26 rfl (by exact sz26) (fun w hM => ?_) a w hF hM))
    rw [hr]
    have hM := (((hM.add 907 (crI none 0 []) rfl (World.ownsRow_nil _ _ _ _)).add 906 (tgI none 0 []) rfl (World.ownsRow_nil _ _ _ _)).add 904 (flI none 0 []) rfl (World.ownsRow_nil _ _ _ _)).many0 900
    exact ⟨⟨⟨none, 0, none, 0⟩, ⟨none, 0, [], []⟩⟩, rfl, ⟨fun f hf => (by cases hf), Nat.zero_le _, rfl⟩, hM.keep (ks := [(0, 999)]) (by repeat (first | exact kl_rest (by assumption) rfl | (apply kl_in; focus rfl))) _ ⟨rfl, rfl, rfl, rfl, trivial⟩⟩
  try simp only [nrm] at h14
  have hs1 : ¬ 1000000 < s.length := by omega
  refine kgx ?_
  refine sr 1 ?_
  refine S_callN 18 [] [(906, 906), (907, 907)] (X := HdR) rfl rfl rfl rfl rfl rfl rfl cf55 rfl (fun y => .tuple #[evV (hrN (rdR s)).1 y, .int .i64 (((hrN (rdR s)).2.1 : Nat) : Int), str (hrN (rdR s)).2.2.1, .int .i64 (hrN (rdR s)).2.2.2]) (fun _ => True) (fun y => [(906, tgI y.A y.c (hrN (rdR s)).1.ta), (907, crI y.B y.d (hrN (rdR s)).1.cr)]) (fun _ => rfl) (fun _ => rfl) (fun K1 hK1 w hM => HeadRead_any hK1 s (by omega) w hM) ?_
  intro y _
  refine sr 5 ?_
  refine S_alloc 5 5 rfl rfl rfl rfl z26 ?_
  intro b5
  refine S_store 5 rfl rfl rfl rfl rfl rfl sz26 rfl rfl ?_
  refine sr 3 ?_
  refine sgs ?_
  refine tx ?_
  refine sr 2 ?_
  refine sgo ?_
  refine T_cond rfl ?_ ?_ <;> intro h24
  · try simp only [nrm] at h24
    obtain ⟨n, hn⟩ := hrN_bad (x := rdR s) h24
    have hr : readQ s = (n, 8, hd0, []) := by rw [readQ, if_neg hs1, hn]
    rw [hn]
    simp only [hrN_inr]
    refine tx ?_
    refine s1 (y_build (zv := .agg #[.string ⟨#[]⟩, .int .i64 0, .int .i64 0, .slice none 0 0, .slice none 0 0, .slice none 0 0, .string ⟨#[]⟩, .string ⟨#[]⟩, .int .i64 0]) (pl := [(0, 1), (1, 1), (2, 1), (3, 1), (4, 1), (5, 1), (6, 1), (7, 1), (8, 1)]) (out := [.string ⟨#[]⟩, .int .i64 0, .int .i64 0, .slice none 0 0, .slice none 0 0, .slice none 0 0, .string ⟨#[]⟩, .string ⟨#[]⟩, .int .i64 0]) rfl rfl Tryz.underlying26 z26 (by kernel_rfl) rfl) ?_
    refine sr 2 ?_
    refine S_store 2 rfl rfl rfl rfl rfl rfl sz26 rfl rfl ?_
    refine sr 2 ?_
    refine sgo ?_
    refine T_ret (fun a w hF hM => hRb a w (post_cell2 2 rfl rfl rfl rfl rfl Tryz.underlying26 rfl (by exact sz26) (fun w hM => ?_) a w hF hM))
    rw [hr]
    have hM := (((hM.add 907 (crI none 0 []) rfl (World.ownsRow_nil _ _ _ _)).add 906 (tgI none 0 []) rfl (World.ownsRow_nil _ _ _ _)).add 904 (flI none 0 []) rfl (World.ownsRow_nil _ _ _ _)).many0 900
    exact ⟨⟨⟨none, 0, none, 0⟩, ⟨none, 0, [], []⟩⟩, rfl, ⟨fun f hf => (by cases hf), Nat.zero_le _, rfl⟩, hM.keep (ks := [(0, 999)]) (by repeat (first | exact kl_rest (by assumption) rfl | (apply kl_in; focus rfl))) _ ⟨rfl, rfl, rfl, rfl, trivial⟩⟩
  try simp only [nrm] at h24
  obtain ⟨h, r, n, hR⟩ := hrN_ok (x := rdR s) h24
  have hin := rdL_in _ hR
  have hrw := rdW_le r
  have hsh := rdL_short (N := 1000000) _ (hd0_short _) (by omega) hR
  have hcn := rdL_cnt _ (Nat.zero_le _) (Nat.zero_le _) hR
  rw [hR]
  simp only [hrN_in]
  refine kgx ?_
  refine sr 1 ?_
  refine S_callN 30 [] [(900, 900), (904, 904)] (X := RdR) rfl rfl rfl rfl rfl rfl rfl cf56 rfl (fun x => .tuple #[.slice x.A x.l.length x.c, .int .i64 ((rdW r : Nat) : Int), .int .i64 (sNo r)]) (fun x => SrR w0 r x) (fun x => [(900, .many x.rs), (904, flI x.A x.c x.l)]) (fun _ => rfl) (fun _ => rfl) (fun K1 hK1 w hM => FaultsRead_any hK1 r (by omega) w hM) ?_
  intro x hx
  have hxf := hx.few
  have hxo := hx.ok
  have hxs := hx.says
  refine sr 7 ?_
  refine sgs ?_
  refine tx ?_
  refine sr 2 ?_
  refine sgo ?_
  refine T_cond rfl ?_ ?_ <;> intro h35
  · try simp only [nrm] at h35
    have h35 : sNo r = 8 := h35
    have hr : readQ s = (n + rdW r, 8, hd0, []) := by rw [readQ, if_neg hs1, hR]; exact if_pos h35
    rw [h35]
    refine tx ?_
    refine s1 (y_build (zv := .agg #[.string ⟨#[]⟩, .int .i64 0, .int .i64 0, .slice none 0 0, .slice none 0 0, .slice none 0 0, .string ⟨#[]⟩, .string ⟨#[]⟩, .int .i64 0]) (pl := [(0, 1), (1, 1), (2, 1), (3, 1), (4, 1), (5, 1), (6, 1), (7, 1), (8, 1)]) (out := [.string ⟨#[]⟩, .int .i64 0, .int .i64 0, .slice none 0 0, .slice none 0 0, .slice none 0 0, .string ⟨#[]⟩, .string ⟨#[]⟩, .int .i64 0]) rfl rfl Tryz.underlying26 z26 (by kernel_rfl) rfl) ?_
    refine sr 2 ?_
    refine s1 (y_bin rfl rfl rfl (fun hg => b_addv (((n + rdW r : Nat) : Int)) (by omega) (by omega))) ?_
    refine sr 1 ?_
    refine S_store 2 rfl rfl rfl rfl rfl rfl sz26 rfl rfl ?_
    refine sr 2 ?_
    refine sgo ?_
    refine T_ret (fun a w hF hM => hRb a w (post_cell2 2 rfl rfl rfl rfl rfl Tryz.underlying26 rfl (by exact sz26) (fun w hM => ?_) a w hF hM))
    rw [hr]
    have hM := (((hM.add 907 (crI none 0 []) rfl (World.ownsRow_nil _ _ _ _)).add 906 (tgI none 0 []) rfl (World.ownsRow_nil _ _ _ _)).add 904 (flI none 0 []) rfl (World.ownsRow_nil _ _ _ _)).many0 900
    exact ⟨⟨⟨none, 0, none, 0⟩, ⟨none, 0, [], []⟩⟩, rfl, ⟨fun f hf => (by cases hf), Nat.zero_le _, rfl⟩, hM.keep (ks := [(0, 999)]) (by repeat (first | exact kl_rest (by assumption) rfl | (apply kl_in; focus rfl))) _ ⟨rfl, rfl, rfl, rfl, trivial⟩⟩
  try simp only [nrm] at h35
  have h35 : ¬ sNo r = 8 := h35
  refine kgs ?_
  refine tx ?_
  refine sr 2 ?_
  refine sgo ?_
  refine T_cond rfl ?_ ?_ <;> intro h42
  · try simp only [nrm] at h42
    have h42 : ¬ sNo r = 0 := h42
    have hr := readQ_no hs1 hR h35 h42
    refine tx ?_
    refine s1 (y_build (zv := .agg #[.string ⟨#[]⟩, .int .i64 0, .int .i64 0, .slice none 0 0, .slice none 0 0, .slice none 0 0, .string ⟨#[]⟩, .string ⟨#[]⟩, .int .i64 0]) (pl := [(0, 1), (1, 1), (2, 1), (3, 1), (4, 1), (5, 1), (6, 1), (7, 1), (8, 1)]) (out := [.string ⟨#[]⟩, .int .i64 0, .int .i64 0, .slice none 0 0, .slice none 0 0, .slice none 0 0, .string ⟨#[]⟩, .string ⟨#[]⟩, .int .i64 0]) rfl rfl Tryz.underlying26 z26 (by kernel_rfl) rfl) ?_
    refine s1 (yA 5 rfl Tryz.underlying26 sz26) ?_
    refine s1 (y_call rfl rfl rfl cf46 (fun _ w _ => HeadFault_any (evOf h y none 0 []) w)) ?_
    refine sr 1 ?_
    refine S_buildSlice 47 47 rfl rfl rfl rfl rfl Tryz.underlying173 inf30 rfl (by decide) (by decide) rfl rfl (by decide) rfl (_) rfl ?_
    intro b47
    refine s1 (y_call rfl rfl rfl cf57 (fun _ w hM => efirst2_any _ _ (headNo h.id h.at_ h.lv) (sNo r) w ⟨own_reads hM (i := 47) rfl, rfl⟩)) ?_
    refine S_store 2 rfl rfl rfl rfl rfl rfl sz26 rfl rfl ?_
    refine sr 2 ?_
    refine sgo ?_
    refine T_ret (fun a w hF hM => hRb a w (post_cell2 2 rfl rfl rfl rfl rfl Tryz.underlying26 rfl (by exact sz26) (fun w hM => ?_) a w hF hM))
    rw [hr]
    have hM := (((hM.add 907 (crI none 0 []) rfl (World.ownsRow_nil _ _ _ _)).add 906 (tgI none 0 []) rfl (World.ownsRow_nil _ _ _ _)).add 904 (flI none 0 []) rfl (World.ownsRow_nil _ _ _ _)).many0 900
    exact ⟨⟨⟨none, 0, none, 0⟩, ⟨none, 0, [], []⟩⟩, rfl, ⟨fun f hf => (by cases hf), Nat.zero_le _, rfl⟩, hM.keep (ks := [(0, 999)]) (by repeat (first | exact kl_rest (by assumption) rfl | (apply kl_in; focus rfl))) _ ⟨rfl, rfl, rfl, rfl, trivial⟩⟩
  try simp only [nrm] at h42
  have h42 : sNo r = 0 := h42
  have hev0 := readQ_ev hs1 hR h42
  refine T_knownP (p := ∀ f ∈ x.l, f.fr.q = f.fr.l.length) (fun w hM f hf => ((hxo f hf).at hM 900 rfl).fr.ok.t.len.symm) fun hfq => ?_
  have hev : evNo (evOf h y x.A x.c x.l) = evP h (sL r) := (evNo_of hfq).trans (by rw [hxs])
  refine kgx ?_
  refine sr 1 ?_
  refine s1 (yF fa26_3) ?_
  refine S_store 5 rfl rfl rfl rfl rfl rfl sz22 rfl rfl ?_
  refine sgs ?_
  refine tx ?_
  refine s1 (yA 5 rfl Tryz.underlying26 sz26) ?_
  refine s1 (y_call rfl rfl rfl cf14 (fun _ w hM => EventFault_any (evOf h y x.A x.c x.l) w (evt_ok hsh (by omega) (by omega) (by omega) (row_ok (hM.sat 904 _ rfl) rfl) (row_ok (hM.sat 906 _ rfl) rfl) (row_ok (hM.sat 907 _ rfl) rfl) (fun f hf => (hxo f hf).at hM 900 rfl)))) ?_
  refine sr 1 ?_
  refine sgx ?_
  refine sr 2 ?_
  refine sgo ?_
  refine T_cond rfl ?_ ?_ <;> intro h54
  · try simp only [nrm] at h54
    have h54 : ¬ evNo (evOf h y x.A x.c x.l) = 0 := h54
    have hr : readQ s = (0, evNo (evOf h y x.A x.c x.l), hd0, []) := by rw [hev0, ← hev, if_pos h54]
    refine tx ?_
    refine s1 (y_build (zv := .agg #[.string ⟨#[]⟩, .int .i64 0, .int .i64 0, .slice none 0 0, .slice none 0 0, .slice none 0 0, .string ⟨#[]⟩, .string ⟨#[]⟩, .int .i64 0]) (pl := [(0, 1), (1, 1), (2, 1), (3, 1), (4, 1), (5, 1), (6, 1), (7, 1), (8, 1)]) (out := [.string ⟨#[]⟩, .int .i64 0, .int .i64 0, .slice none 0 0, .slice none 0 0, .slice none 0 0, .string ⟨#[]⟩, .string ⟨#[]⟩, .int .i64 0]) rfl rfl Tryz.underlying26 z26 (by kernel_rfl) rfl) ?_
    refine sr 1 ?_
    refine S_store 2 rfl rfl rfl rfl rfl rfl sz26 rfl rfl ?_
    refine sr 2 ?_
    refine sgo ?_
    refine T_ret (fun a w hF hM => hRb a w (post_cell2 2 rfl rfl rfl rfl rfl Tryz.underlying26 rfl (by exact sz26) (fun w hM => ?_) a w hF hM))
    rw [hr]
    have hM := (((hM.add 907 (crI none 0 []) rfl (World.ownsRow_nil _ _ _ _)).add 906 (tgI none 0 []) rfl (World.ownsRow_nil _ _ _ _)).add 904 (flI none 0 []) rfl (World.ownsRow_nil _ _ _ _)).many0 900
    exact ⟨⟨⟨none, 0, none, 0⟩, ⟨none, 0, [], []⟩⟩, rfl, ⟨fun f hf => (by cases hf), Nat.zero_le _, rfl⟩, hM.keep (ks := [(0, 999)]) (by repeat (first | exact kl_rest (by assumption) rfl | (apply kl_in; focus rfl))) _ ⟨rfl, rfl, rfl, rfl, trivial⟩⟩
  try simp only [nrm] at h54
  have h54 : evNo (evOf h y x.A x.c x.l) = 0 := h54
  have hr : readQ s = (0, 0, h, sL r) := by rw [hev0, ← hev, if_neg (fun e => e h54)]
  refine kgx ?_
  refine s1 (yA 5 rfl Tryz.underlying26 sz26) ?_
  refine S_store 2 rfl rfl rfl rfl rfl rfl sz26 rfl rfl ?_
  refine sr 2 ?_
  refine sgo ?_
  refine T_ret (fun a w hF hM => hRb a w (post_cell2 2 rfl rfl rfl rfl rfl Tryz.underlying26 rfl (by exact sz26) (fun w hM => ?_) a w hF hM))
  rw [hr]
  exact ⟨⟨y, x⟩, rfl, ⟨hxo, hxf, hxs⟩, hM.keep (ks := [(0, 999)]) (by repeat (first | exact kl_rest (by assumption) rfl | (apply kl_in; focus rfl))) _ ⟨rfl, rfl, rfl, rfl, trivial⟩⟩
/-! ### What was read, twice -/
theorem readQ_parts (s : List UInt8) : ((readQ s).2.1 ≠ 0 → (readQ s).2.2 = (hd0, [])) ∧ HdS 1000000 (readQ s).2.2.1 ∧ (readQ s).2.2.1.ta.length ≤ 2000000 ∧ (readQ s).2.2.1.cr.length ≤ 2000000 := by
  have h0 : HdS 1000000 hd0 ∧ hd0.ta.length ≤ 2000000 ∧ hd0.cr.length ≤ 2000000 := ⟨hd0_short _, Nat.zero_le _, Nat.zero_le _⟩
  by_cases hs1 : 1000000 < s.length
  · have hr : readQ s = (0, 4, hd0, []) := if_pos hs1
    rw [hr]; exact ⟨fun _ => rfl, h0⟩
  cases hR : rdR s with
  | inr n =>
    have hr : readQ s = (n, 8, hd0, []) := by rw [readQ, if_neg hs1, hR]
    rw [hr]; exact ⟨fun _ => rfl, h0⟩
  | inl x =>
    obtain ⟨h, r, n⟩ := x
    have hin := rdL_in _ hR
    have hsh := rdL_short (N := 1000000) _ (hd0_short _) (by omega) hR
    have hcn := rdL_cnt _ (Nat.zero_le _) (Nat.zero_le _) hR
    by_cases h35 : sNo r = 8
    · have hr : readQ s = (n + rdW r, 8, hd0, []) := by rw [readQ, if_neg hs1, hR]; exact if_pos h35
      rw [hr]; exact ⟨fun _ => rfl, h0⟩
    by_cases h42 : sNo r = 0
    · rw [readQ_ev hs1 hR h42]
      by_cases h54 : evP h (sL r) ≠ 0
      · rw [if_pos h54]; exact ⟨fun _ => rfl, h0⟩
      · rw [if_neg h54]; exact ⟨fun e => absurd rfl e, hsh, by show h.ta.length ≤ _; omega, by show h.cr.length ≤ _; omega⟩
    · rw [readQ_no hs1 hR h35 h42]; exact ⟨fun _ => rfl, h0⟩
theorem flt_pfl : ∀ {a b : List Flt}, a.map pfl = b.map pfl → eqLB Flt.eqB a b = true
  | [], [], _ => rfl
  | [], _ :: _, h => by simp at h
  | _ :: _, [], h => by simp at h
  | x :: r, y :: s, h => by
    simp only [List.map_cons, List.cons.injEq] at h
    obtain ⟨h1, h2⟩ := h
    simp only [pfl, PFl.mk.injEq] at h1
    rw [eqLB, flt_pfl h2, Flt.eqB, h1.1, h1.2.1, h1.2.2, eqL_refl (fun a => (Frm.eqB_iff a a).2 rfl)]
    simp
theorem ev_same {h : Hd} {y y' : HdR} {A A' : Option Addr} {c c' : Nat} {l l' : List Flt} (hl : l.map pfl = l'.map pfl) : sameE (evOf h y A c l) (evOf h y' A' c' l') = true := by
  have h1 : eqLB Flt.eqB (evOf h y A c l).fa.l (evOf h y' A' c' l').fa.l = true := flt_pfl hl
  rw [sameE, h1]
  simp [evOf, eqL_refl (fun a => (STag.eqB_iff a a).2 rfl), eqL_refl (fun a => (SCrumb.eqB_iff a a).2 rfl)]
def evZ0 : Evt := evOf hd0 ⟨none, 0, none, 0⟩ none 0 []
theorem evZ0_ok (w : World) : evZ0.Ok w :=
  evt_ok (hd0_short _) (Nat.zero_le _) (Nat.zero_le _) (Nat.zero_le _) ⟨⟨⟨by simp, fun h => by simp at h⟩, rfl⟩, Nat.le_refl _⟩ ⟨⟨⟨by simp [hd0], fun h => by simp [hd0] at h⟩, rfl⟩, Nat.le_refl _⟩ ⟨⟨⟨by simp [hd0], fun h => by simp [hd0] at h⟩, rfl⟩, Nat.le_refl _⟩ (fun f hf => (by cases hf))
def wantZ (no : Int) (u : Evt) : Evt := if no ≠ 0 then evZ0 else u
theorem eone_any (v u : Evt) (x no : Int) (w : World) (hv : v.Ok w) (hu : u.Ok w) :
    Calls Tryz.prog 18 #[v.val, .int .i64 x, u.val, .int .i64 no] w fun e w' => e = .returned (.bool (sameE v (wantZ no u) && decide (x = no))) ∧ Below w.heap.size w w' := by
  refine enter_args (args := [.agg #[str v.id, .int .i64 v.at_, .int .i64 v.lv, .slice v.fa.A v.fa.q v.fa.c, .slice v.ta.A v.ta.q v.ta.c, .slice v.cr.A v.cr.q v.cr.c, str v.rel, str v.us, .int .i64 v.wt], .int .i64 x, .agg #[str u.id, .int .i64 u.at_, .int .i64 u.lv, .slice u.fa.A u.fa.q u.fa.c, .slice u.ta.A u.ta.q u.ta.c, .slice u.cr.A u.cr.q u.cr.c, str u.rel, str u.us, .int .i64 u.wt], .int .i64 no]) (F := _) Tryz.func18 rfl Tryz.ntmps18 rfl rfl ?_
  intro Rb hRb hRn
  refine tx ?_
  refine S_box 4 4 rfl rfl rfl rfl rfl ?_
  intro b4
  refine S_box 6 6 rfl rfl rfl rfl rfl ?_
  intro b6
  refine sr 1 ?_
  refine sgs ?_
  refine tx ?_
  refine sr 2 ?_
  refine sgo ?_
  refine T_cond rfl ?_ ?_ <;> intro h10
  · try simp only [nrm] at h10
    refine T_region ?_
    refine s1 (y_build (zv := .agg #[.string ⟨#[]⟩, .int .i64 0, .int .i64 0, .slice none 0 0, .slice none 0 0, .slice none 0 0, .string ⟨#[]⟩, .string ⟨#[]⟩, .int .i64 0]) (pl := [(0, 1), (1, 1), (2, 1), (3, 1), (4, 1), (5, 1), (6, 1), (7, 1), (8, 1)]) (out := [.string ⟨#[]⟩, .int .i64 0, .int .i64 0, .slice none 0 0, .slice none 0 0, .slice none 0 0, .string ⟨#[]⟩, .string ⟨#[]⟩, .int .i64 0]) rfl rfl Tryz.underlying26 z26 (by kernel_rfl) rfl) ?_
    refine S_store 6 rfl rfl rfl rfl rfl rfl sz26 rfl rfl ?_
    refine sgx ?_
    refine s1 (yA 4 rfl Tryz.underlying26 sz26) ?_
    refine s1 (yA 6 rfl Tryz.underlying26 sz26) ?_
    refine s1 (y_call rfl rfl rfl cf58 (fun _ w hM => SameEvent_any v evZ0 w (hv.below hM.below) (evZ0_ok w))) ?_
    refine sr 1 ?_
    refine sg rfl (y_move rfl rfl) ?_
    refine sg rfl (y_move rfl rfl) ?_
    refine sg rfl (y_bin rfl rfl rfl (fun _ => b_eql)) ?_
    refine s1 (y_and rfl rfl rfl) ?_
    refine sr 1 ?_
    refine sgo ?_
    refine tr1 hRb fun w hM => ?_
    exact ⟨by rw [wantZ, if_pos h10], hM.below⟩
  try simp only [nrm] at h10
  refine kgx ?_
  refine s1 (yA 4 rfl Tryz.underlying26 sz26) ?_
  refine s1 (yA 6 rfl Tryz.underlying26 sz26) ?_
  refine s1 (y_call rfl rfl rfl cf58 (fun _ w hM => SameEvent_any v u w (hv.below hM.below) (hu.below hM.below))) ?_
  refine sr 1 ?_
  refine sg rfl (y_move rfl rfl) ?_
  refine sg rfl (y_move rfl rfl) ?_
  refine sg rfl (y_bin rfl rfl rfl (fun _ => b_eql)) ?_
  refine s1 (y_and rfl rfl rfl) ?_
  refine sr 1 ?_
  refine sgo ?_
  refine tr1 hRb fun w hM => ?_
  exact ⟨by rw [wantZ, if_neg (by simpa using h10)], hM.below⟩
theorem etold_any (v want : List UInt8) (e f : Int) (w : World) :
    Calls Tryz.prog 16 #[str v, .int .i64 e, str want, .int .i64 f] w fun en w' => en = .returned (.bool (decide (v = if f = 0 then want else []) && decide (e = f))) ∧ Below w.heap.size w w' := by
  refine enter_args (args := [str v, .int .i64 e, str want, .int .i64 f]) (F := _) Tryz.func16 rfl Tryz.ntmps16 rfl rfl ?_
  intro Rb hRb hRn
  refine tx ?_
  refine sr 1 ?_
  refine sgx ?_
  refine sr 1 ?_
  refine sgs ?_
  refine tx ?_
  refine sr 2 ?_
  refine sgo ?_
  refine T_cond rfl ?_ ?_ <;> intro h11
  · try simp only [nrm] at h11
    refine T_region ?_
    refine sr 2 ?_
    refine sgx ?_
    refine sr 2 ?_
    refine s1 (y_bin rfl rfl rfl (fun _ => b_eqls)) ?_
    refine sr 1 ?_
    refine sg rfl (y_move rfl rfl) ?_
    refine sg rfl (y_move rfl rfl) ?_
    refine sg rfl (y_bin rfl rfl rfl (fun _ => b_eql)) ?_
    refine s1 (y_and rfl rfl rfl) ?_
    refine sr 1 ?_
    refine sgo ?_
    refine tr1 hRb fun w hM => ?_
    exact ⟨by rw [if_neg h11], hM.below⟩
  try simp only [nrm] at h11
  refine kgx ?_
  refine sr 2 ?_
  refine s1 (y_bin rfl rfl rfl (fun _ => b_eqls)) ?_
  refine sr 1 ?_
  refine sg rfl (y_move rfl rfl) ?_
  refine sg rfl (y_move rfl rfl) ?_
  refine sg rfl (y_bin rfl rfl rfl (fun _ => b_eql)) ?_
  refine s1 (y_and rfl rfl rfl) ?_
  refine sr 1 ?_
  refine sgo ?_
  refine tr1 hRb fun w hM => ?_
  exact ⟨by rw [if_pos h11], hM.below⟩
theorem one_read {s : List UInt8} {y y' : HdR} {A A' : Option Addr} {c c' : Nat} {l l' : List Flt} (h1 : l.map pfl = (readQ s).2.2.2) (h2 : l'.map pfl = (readQ s).2.2.2) :
    (sameE (evOf (readQ s).2.2.1 y A c l) (wantZ (readQ s).2.1 (evOf (readQ s).2.2.1 y' A' c' l')) && decide ((readQ s).2.1 = (readQ s).2.1)) = true := by
  rw [decide_eq_true rfl, Bool.and_true, wantZ]
  by_cases h : (readQ s).2.1 ≠ 0
  · have hp := (readQ_parts s).1 h
    rw [if_pos h, hp]
    rw [hp] at h1
    exact ev_same h1
  · rw [if_neg h]; exact ev_same (h1.trans h2.symm)
def wantS (e : Evt) : List UInt8 := if evNo e = 0 then etS e else []
theorem textS_want (e : Evt) : textS e = if textNo e = 0 then wantS e else [] := by
  unfold textS
  by_cases h : textNo e = 0
  · rw [if_pos h, if_pos h]
    obtain ⟨h1, h2⟩ := fst_zero h
    rw [wantS, if_pos h1, etS, if_neg]
    intro hb; rw [if_pos hb] at h2; cases h2
  · rw [if_neg h, if_neg h]
theorem two_at {a b : List UInt8} {i : Nat} (h : i < 2) : [str a, str b][i]? = some (str ([a, b].getD i [])) := by
  match i, h with
  | 0, _ => rfl
  | 1, _ => rfl
theorem two_len {k : Nat} {a b : List UInt8} (i : Nat) (h1 : a.length ≤ k) (h2 : b.length ≤ k) : ([a, b].getD i []).length ≤ k := by
  match i with
  | 0 => exact h1
  | 1 => exact h2
  | _ + 2 => exact Nat.zero_le _
theorem wantS_le {w : World} {e : Evt} (he : e.Ok w) : (wantS e).length ≤ 4611686018427387904 := by
  unfold wantS
  split
  · rename_i h
    have hN := evNo_right he h
    have h1 := hdT_le hN
    have h2 := writeT_le (n := 0) (p := none) hN.fa
    have h3 := hN.fq
    have h4 : (evT e).length = (hdT e).length + (writeT none (e.fa.l.map pfl)).length := List.length_append
    unfold etS
    split
    · exact Nat.zero_le _
    · omega
  · exact Nat.zero_le _
set_option maxRecDepth 8000 in
set_option maxHeartbeats 3200000 in
theorem EventTexts_any (e : Evt) (s : List UInt8) (w : World) (he : e.Ok w) (hs : s.length ≤ 4611686018427387904) (hP : P10 w) (hT : TzTab w) :
    Calls Tryz.prog 4 #[e.val, str s] w fun en w' => en = .returned (.bool true) ∧ Below w.heap.size w w' := by
  have hwl := wantS_le he
  have hts := textS_want e
  refine enter_args (args := [.agg #[str e.id, .int .i64 e.at_, .int .i64 e.lv, .slice e.fa.A e.fa.q e.fa.c, .slice e.ta.A e.ta.q e.ta.c, .slice e.cr.A e.cr.q e.cr.c, str e.rel, str e.us, .int .i64 e.wt], str s]) (F := _) Tryz.func4 rfl Tryz.ntmps4 rfl rfl ?_
  intro Rb hRb hRn
  refine tx ?_
  refine S_box 2 2 rfl rfl rfl rfl rfl ?_
  intro b2
  refine sr 1 ?_
  refine sgx ?_
  refine s1 (yA 2 rfl Tryz.underlying26 sz26) ?_
  refine s1 (y_call rfl rfl rfl cf14 (fun _ w1 hM => EventFault_any e w1 (he.below hM.below))) ?_
  refine sr 1 ?_
  refine sgx ?_
  refine sr 1 ?_
  refine sgs ?_
  refine tx ?_
  refine sr 2 ?_
  refine sgo ?_
  refine T_mid (kf := [(5, 6), (21, 25)]) (kl := [(5, 6), (21, 25)]) (fun u : Unit => [(6, true, str (wantS e)), (5, true, .int .i64 (textNo e))]) (fun u : Unit => []) (by repeat (first | exact kf_nil | (apply kf_in; focus rfl) | (apply kf_out; focus rfl))) (by repeat (first | exact kl_nil | exact kl_rest (by assumption) rfl | (apply kl_in; focus rfl) | (apply kl_out; focus rfl))) ?_ ?_
  · skip
    refine T_cond rfl ?_ ?_ <;> intro h20
    · try simp only [nrm] at h20
      have h20 : evNo e = 0 := h20
      refine T_region ?_
      refine s1 (yA 2 rfl Tryz.underlying26 sz26) ?_
      refine s1 (y_call rfl rfl rfl cf15 (fun _ w1 hM => eventText_any e w1 (he.below hM.below) h20 (hP.below hM.below))) ?_
      refine sr 5 ?_
      refine S_nil (mid_end (kf := [(5, 6), (21, 25)]) (kl := [(5, 6), (21, 25)]) (()) (by repeat (first | exact kf_nil | (apply kf_in; focus rfl) | (apply kf_out; focus rfl))) (by repeat (first | exact kl_nil | exact kl_rest (by assumption) rfl | (apply kl_in; focus rfl) | (apply kl_out; focus rfl))) ?_ ?_)
      · exact ⟨by rw [wantS, if_pos h20]; rfl, by rw [textNo_et, fst_f h20]; rfl, trivial⟩
      · exact trivial
    try simp only [nrm] at h20
    have h20 : ¬ evNo e = 0 := h20
    refine T_skip (mid_end (kf := [(5, 6), (21, 25)]) (kl := [(5, 6), (21, 25)]) (()) (by repeat (first | exact kf_nil | (apply kf_in; focus rfl) | (apply kf_out; focus rfl))) (by repeat (first | exact kl_nil | exact kl_rest (by assumption) rfl | (apply kl_in; focus rfl) | (apply kl_out; focus rfl))) ?_ ?_)
    · exact ⟨by rw [wantS, if_neg h20]; rfl, by rw [textNo_et, fst_t h20]; rfl, trivial⟩
    · exact trivial
  intro u
  refine sgx ?_
  refine s1 (yA 2 rfl Tryz.underlying26 sz26) ?_
  refine s1 (y_call rfl rfl rfl cf9 (fun _ w1 hM => eText_any e w1 (he.below hM.below) (hP.below hM.below) (hT.below hM.below))) ?_
  refine sr 5 ?_
  refine sgs ?_
  refine tx ?_
  refine sr 4 ?_
  refine s1 (y_as (v' := .bool true) (by exact congrArg Value.bool (by rw [← hts]; simp)) (y_call rfl rfl rfl cf16 (fun _ w _ => etold_any (textS e) (wantS e) (textNo e) (textNo e) w))) ?_
  refine sr 1 ?_
  refine sgo ?_
  refine T_cond rfl ?_ ?_ <;> intro h36
  · skip
    cases h36
  refine kgs ?_
  refine tx ?_
  refine sr 2 ?_
  refine S_buildSlice 39 39 rfl rfl rfl rfl rfl Tryz.underlying53 inf9 rfl (by decide) (by decide) rfl rfl (by decide) rfl ([s, wantS e].flatMap strE) ?_ ?_
  · rfl
  intro b39
  refine s1 (y_len_slice rfl rfl Tryz.underlying53) ?_
  refine sr 1 ?_
  refine sgo ?_
  refine T_block ?_
  refine lK1 (kf := [(4, 4), (10, 16), (41, 68)]) (kl := [(4, 4), (10, 16), (41, 68)]) (fun (i : Nat) => [(41, true, .int .i64 (i : Int))]) (fun (i : Nat) => []) (fun (i : Nat) => i ≤ 2) (fun (i : Nat) => 2 - i) 0 ?_ ?_ ?_ ?_
  · omega
  · exact ⟨rfl, trivial⟩
  · exact trivial
  rintro i hp1
  refine tx ?_
  refine sr 1 ?_
  refine sgs ?_
  refine T_cond rfl ?_ ?_ <;> intro h42
  · try simp only [nrm] at h42
    have hvl := two_len (k := 4611686018427387904) i hs hwl
    have hpt := readQ_parts ([s, wantS e].getD i [])
    refine kgs ?_
    refine T_block ?_
    refine tx ?_
    refine s1 (y_indexOwn 39 rfl rfl rfl rfl Tryz.underlying53 sz9 (fun _ => by omega)) ?_
    refine s1 (y_load_own 39 rfl rfl rfl (fun _ => by omega) (fun _ => two_at (by omega)) Tryz.underlying9 rfl) ?_
    refine sr 1 ?_
    refine sgx ?_
    refine sr 1 ?_
    refine S_callN 47 [] [(900, 900), (904, 904), (906, 906), (907, 907)] (X := EvR) rfl rfl rfl rfl rfl rfl rfl cf10 rfl (fun z => .tuple #[(evOf (readQ ([s, wantS e].getD i [])).2.2.1 z.y z.x.A z.x.c z.x.l).val, .int .i64 (((readQ ([s, wantS e].getD i [])).1 : Nat) : Int), .int .i64 (readQ ([s, wantS e].getD i [])).2.1]) (fun z => EvOk w (readQ ([s, wantS e].getD i [])).2.2.2 z) (fun z => [(900, .many z.x.rs), (904, flI z.x.A z.x.c z.x.l), (906, tgI z.y.A z.y.c (readQ ([s, wantS e].getD i [])).2.2.1.ta), (907, crI z.y.B z.y.d (readQ ([s, wantS e].getD i [])).2.2.1.cr)]) (fun _ => rfl) (fun _ => rfl) (fun K1 hK1 w1 hM => eRead_any hK1 ([s, wantS e].getD i []) hvl w1 hM) ?_
    intro z0 hz0
    refine sr 4 ?_
    refine S_alloc 11 11 rfl rfl rfl rfl z26 ?_
    intro b11
    refine S_store 11 rfl rfl rfl rfl rfl rfl sz26 rfl rfl ?_
    refine sr 2 ?_
    refine sgx ?_
    refine sr 1 ?_
    refine S_callN 53 [] [(900, 910), (904, 914), (906, 916), (907, 917)] (X := EvR) rfl rfl rfl rfl rfl rfl rfl cf17 rfl (fun z => .tuple #[(evOf (readQ ([s, wantS e].getD i [])).2.2.1 z.y z.x.A z.x.c z.x.l).val, .int .i64 (((readQ ([s, wantS e].getD i [])).1 : Nat) : Int), .int .i64 (readQ ([s, wantS e].getD i [])).2.1]) (fun z => EvOk w (readQ ([s, wantS e].getD i [])).2.2.2 z) (fun z => [(900, .many z.x.rs), (904, flI z.x.A z.x.c z.x.l), (906, tgI z.y.A z.y.c (readQ ([s, wantS e].getD i [])).2.2.1.ta), (907, crI z.y.B z.y.d (readQ ([s, wantS e].getD i [])).2.2.1.cr)]) (fun _ => rfl) (fun _ => rfl) (fun K1 hK1 w1 hM => eventRead_any hK1 ([s, wantS e].getD i []) hvl w1 hM) ?_
    intro z10 hz10
    refine sr 4 ?_
    refine S_alloc 14 14 rfl rfl rfl rfl z26 ?_
    intro b14
    refine S_store 14 rfl rfl rfl rfl rfl rfl sz26 rfl rfl ?_
    refine sr 2 ?_
    refine sgx ?_
    refine sr 2 ?_
    refine s1 (y_as (v' := .bool false) (by simp) (y_bin rfl rfl rfl (fun _ => b_neq))) ?_
    refine sr 1 ?_
    refine sg rfl (yA 11 rfl Tryz.underlying26 sz26) ?_
    refine sg rfl (y_move rfl rfl) ?_
    refine sg rfl (yA 14 rfl Tryz.underlying26 sz26) ?_
    refine sg rfl (y_move rfl rfl) ?_
    refine sg rfl (y_as (v' := .bool true) (by exact congrArg Value.bool (one_read hz0.says hz10.says)) (y_call rfl rfl rfl cf18 (fun _ w1 hM => eone_any (evOf (readQ ([s, wantS e].getD i [])).2.2.1 z0.y z0.x.A z0.x.c z0.x.l) (evOf (readQ ([s, wantS e].getD i [])).2.2.1 z10.y z10.x.A z10.x.c z10.x.l) (readQ ([s, wantS e].getD i [])).2.1 (readQ ([s, wantS e].getD i [])).2.1 w1 (evt_ok hpt.2.1 hpt.2.2.1 hpt.2.2.2 hz0.few (row_ok (hM.sat 904 _ rfl) rfl) (row_ok (hM.sat 906 _ rfl) rfl) (row_ok (hM.sat 907 _ rfl) rfl) (fun f hf => (hz0.ok f hf).at hM 900 rfl)) (evt_ok hpt.2.1 hpt.2.2.1 hpt.2.2.2 hz10.few (row_ok (hM.sat 914 _ rfl) rfl) (row_ok (hM.sat 916 _ rfl) rfl) (row_ok (hM.sat 917 _ rfl) rfl) (fun f hf => (hz10.ok f hf).at hM 910 rfl))))) ?_
    refine sg rfl (y_not rfl rfl) ?_
    refine s1 (y_or rfl rfl rfl) ?_
    refine sgo ?_
    refine T_cond rfl ?_ ?_ <;> intro h67
    · skip
      cases h67
    refine kgr ?_
    refine s1 (y_bin rfl rfl rfl (fun hg => b_add (by omega))) ?_
    refine sr 1 ?_
    refine S_nil (nN1 (kf := [(4, 4), (10, 16), (41, 68)]) (kl := [(4, 4), (10, 16), (41, 68)]) (i + 1) ?_ ?_ ?_ ?_)
    · omega
    · omega
    · exact ⟨rfl, trivial⟩
    · exact trivial
  try simp only [nrm] at h42
  refine egx ?_
  refine sr 1 ?_
  refine sgo ?_
  refine tr1 hRb fun w hM => ?_
  exact ⟨rfl, hM.below⟩
end Go.Proofs.YtgbldojgbpgjbaaGreatDoor
end
section
namespace Go.Proofs.YtgbldojgbpgjbaaGreatDoor
set_option linter.unusedSimpArgs false
set_option linter.unusedVariables false
set_option maxRecDepth 20000
open Go.RowKit Go.Eng
section
variable {H : Type} {enc : TypeId × Value → H} {w : World}
def IntOk (n : Int) : Prop := (Lit.int .i64 n).wf = true
def ShortS (s : List UInt8) : Prop := s.length ≤ reachBytes
theorem reach_len : reachBytes ≤ 4611686018427387904 := by decide
def strEnc (l : List UInt8) : List Value := [str l]
theorem op_s : Opn enc Tryz.prog w 9 strEnc ShortS (fun l d => d = .lit (.string l)) := opn_str Tryz.underlying9
theorem op_i : Opn enc Tryz.prog w 3 (fun n : Int => [Value.int .i64 n]) IntOk (fun n d => d = .lit (.int .i64 n)) := opn_int Tryz.underlying3
theorem op_b : Opn enc Tryz.prog w 4 (fun b : Bool => [Value.bool b]) (fun _ => True) (fun b d => d = .lit (.bool b)) := opn_bool Tryz.underlying4
def slV {X : Type} (s : Sl X) : List Value := [.slice s.A s.q s.c]
def frmG (f : Frm) : Prop := ShortS f.m ∧ ShortS f.f ∧ ShortS f.fi
theorem op_frm : Opn enc Tryz.prog w 45 Frm.enc frmG (fun _ _ => True) :=
  (opn_struct Tryz.underlying45 co45 (opf_cons op_s rfl co9 (opf_cons op_s rfl co9 (opf_cons op_s rfl co9 (opf_cons op_i rfl co3 (opf_cons op_i rfl co3 (opf_cons op_b rfl co4 opf_nil))))))).map
    (fun p => (⟨p.1, p.2.1, p.2.2.1, p.2.2.2.1, p.2.2.2.2.1, p.2.2.2.2.2.1⟩ : Frm)) (fun _ => rfl) (fun _ h => ⟨h.1, h.2.1, h.2.2.1⟩) (fun _ _ _ => trivial)
theorem op_frms : Opn enc Tryz.prog w 32 slV (FrmsOk w) (fun _ _ => True) :=
  (opn_slice Tryz.underlying32 co45 (by decide) (by rw [bo45]; decide) (fun _ => rfl) op_frm).map (fun s => s) (fun _ => rfl)
    (fun s h => ⟨h.1, Nat.le_trans h.2.1 reach_len, fun f hf => ⟨Nat.le_trans (h.2.2 f hf).1 reach_len, Nat.le_trans (h.2.2 f hf).2.1 reach_len, Nat.le_trans (h.2.2 f hf).2.2 reach_len⟩⟩) (fun _ _ _ => trivial)
theorem op_flt : Opn enc Tryz.prog w 36 Flt.enc (FltOk w) (fun _ _ => True) :=
  (opn_struct Tryz.underlying36 co36 (opf_cons op_s rfl co9 (opf_cons op_s rfl co9 (opf_cons op_frms rfl co32 opf_nil)))).map
    (fun p => (⟨p.1, p.2.1, p.2.2.1⟩ : Flt)) (fun _ => rfl) (fun _ h => ⟨Nat.le_trans h.1 reach_len, Nat.le_trans h.2.1 reach_len, h.2.2.1⟩) (fun _ _ _ => trivial)
theorem op_flts : Opn enc Tryz.prog w 22 slV (FltsOk w) (fun _ _ => True) :=
  (opn_slice Tryz.underlying22 co36 (by decide) (by rw [bo36]; decide) (fun _ => rfl) op_flt).map (fun s => s) (fun _ => rfl)
    (fun s h => ⟨h.1, Nat.le_trans h.2.1 reach_len, h.2.2⟩) (fun _ _ _ => trivial)
theorem op_tag : Opn enc Tryz.prog w 83 STag.enc (fun t => ShortS t.n ∧ ShortS t.v) (fun _ _ => True) :=
  (opn_struct Tryz.underlying83 co83 (opf_cons op_s rfl co9 (opf_cons op_s rfl co9 opf_nil))).map
    (fun p => (⟨p.1, p.2.1⟩ : STag)) (fun _ => rfl) (fun _ h => ⟨h.1, h.2.1⟩) (fun _ _ _ => trivial)
theorem op_tags : Opn enc Tryz.prog w 23 slV (TagsOk w) (fun _ _ => True) :=
  (opn_slice Tryz.underlying23 co83 (by decide) (by rw [bo83]; decide) (fun _ => rfl) op_tag).map (fun s => s) (fun _ => rfl)
    (fun s h => ⟨h.1, Nat.le_trans h.2.1 reach_len, fun t ht => ⟨Nat.le_trans (h.2.2 t ht).1 reach_len, Nat.le_trans (h.2.2 t ht).2 reach_len⟩⟩) (fun _ _ _ => trivial)
theorem op_crumb : Opn enc Tryz.prog w 85 SCrumb.enc (fun c => IntOk c.at_ ∧ ShortS c.k ∧ ShortS c.t) (fun _ _ => True) :=
  (opn_struct Tryz.underlying85 co85 (opf_cons op_i rfl co3 (opf_cons op_s rfl co9 (opf_cons op_s rfl co9 opf_nil)))).map
    (fun p => (⟨p.1, p.2.1, p.2.2.1⟩ : SCrumb)) (fun _ => rfl) (fun _ h => ⟨h.1, h.2.1, h.2.2.1⟩) (fun _ _ _ => trivial)
theorem op_crumbs : Opn enc Tryz.prog w 24 slV (CrumbsOk w) (fun _ _ => True) :=
  (opn_slice Tryz.underlying24 co85 (by decide) (by rw [bo85]; decide) (fun _ => rfl) op_crumb).map (fun s => s) (fun _ => rfl)
    (fun s h => ⟨h.1, Nat.le_trans h.2.1 reach_len, fun t ht => ⟨Nat.le_trans (h.2.2 t ht).2.1 reach_len, Nat.le_trans (h.2.2 t ht).2.2 reach_len⟩⟩) (fun _ _ _ => trivial)
theorem op_evt : Opn enc Tryz.prog w 26 Evt.enc (Evt.Ok w) (fun _ _ => True) :=
  (opn_struct Tryz.underlying26 co26 (opf_cons op_s rfl co9 (opf_cons op_i rfl co3 (opf_cons op_i rfl co3 (opf_cons op_flts rfl co22 (opf_cons op_tags rfl co23 (opf_cons op_crumbs rfl co24 (opf_cons op_s rfl co9 (opf_cons op_s rfl co9 (opf_cons op_i rfl co3 opf_nil)))))))))).map
    (fun p => (⟨p.1, p.2.1, p.2.2.1, p.2.2.2.1, p.2.2.2.2.1, p.2.2.2.2.2.1, p.2.2.2.2.2.2.1, p.2.2.2.2.2.2.2.1, p.2.2.2.2.2.2.2.2.1⟩ : Evt)) (fun _ => rfl)
    (fun p h => by
      obtain ⟨h1, _, _, h4, h5, h6, h7, h8, _⟩ := h
      exact ⟨h4, h5, h6, Nat.le_trans h1 reach_len, Nat.le_trans h7 reach_len, Nat.le_trans h8 reach_len⟩) (fun _ _ _ => trivial)
end
end Go.Proofs.YtgbldojgbpgjbaaGreatDoor
end
section
namespace Go.Proofs.YtgbldojgbpgjbaaGreatDoor
set_option linter.unusedSimpArgs false
set_option linter.unusedVariables false
set_option maxRecDepth 20000
open Go.ChangeShapes Go.WideShapes Go.RowKit
theorem ownNone : ownKnob Tryz.prog.godebug = none := by kernel_rfl
theorem laidOut : laidOutB Tryz.prog = true := by kernel_rfl
def firstCells : Array Value := (Go.Pinned.utf8FirstZ.map fun n : Nat => Value.int .u8 (n : Int)).toArray
def tabCells (k : IntKind) (zs : List Int) : Array Value := (zs.map fun n => Value.int k n).toArray
def rangeZ : List Int := [128, 191, 160, 191, 128, 159, 144, 191, 128, 143, 0, 0, 0, 0, 0, 0, 0, 0, 0, 0, 0, 0, 0, 0, 0, 0, 0, 0, 0, 0, 0, 0]
def tz32Z : List Int := [0, 1, 28, 2, 29, 14, 24, 3, 30, 22, 20, 15, 25, 17, 4, 8, 31, 27, 13, 23, 21, 19, 16, 7, 26, 12, 18, 6, 11, 5, 10, 9]
def tz64Z : List Int := [0, 1, 56, 2, 57, 49, 28, 3, 61, 58, 42, 50, 38, 29, 17, 4, 62, 47, 59, 36, 45, 43, 51, 22, 53, 39, 33, 30, 24, 18, 12, 5, 63, 55, 48, 27, 60, 41, 37, 16, 46, 35, 44, 21, 52, 32, 23, 11, 54, 26, 40, 15, 34, 20, 31, 10, 25, 14, 19, 9, 13, 8, 7, 6]
def pow10Z : List Int := [1, 10, 100, 1000, 10000, 100000, 1000000, 10000000, 100000000, 1000000000, 10000000000, 100000000000, 1000000000000, 10000000000000, 100000000000000, 1000000000000000, 10000000000000000, 100000000000000000, 1000000000000000000, 10000000000000000000]
def layCells (cs : Array Value) : Obj → Obj
  | .cells _ t frozen => .cells cs t frozen
  | o => o
theorem tz_of {x : String × DataW Unit} {rest : List (String × DataW Unit)} {W : World} (h : laidMet Tryz.prog (x :: ("math/bits.deBruijn64tab", Rows.laid_math_bits_deBruijn64tab) :: rest) W) : TzTab W := by
  have h1 : laidMet Tryz.prog (("math/bits.deBruijn64tab", Lib.tabData .u8 tz64Z) :: rest) W := h.tail
  have h2 := (Lib.tabIs_of_head (P := Tryz.prog) (g := 5) (by kernel_rfl) (by kernel_rfl) Tryz.underlying324 Tryz.underlying5 (by kernel_rfl) (by kernel_rfl) h1).cell (g := 5) (by kernel_rfl) 15 (by decide)
  refine ⟨h2, ?_⟩
  unfold World.cell? at h2
  cases hg : W.heap[5]? with
  | none => rw [hg] at h2; cases h2
  | some o => exact (Array.getElem?_eq_some_iff.1 hg).1
end Go.Proofs.YtgbldojgbpgjbaaGreatDoor
end
section
namespace Go.Proofs.YtgbldojgbpgjbaaGreatDoor
set_option linter.unusedSimpArgs false
set_option linter.unusedVariables false
set_option maxRecDepth 20000
open Go.ChangeShapes Go.WideShapes Go.RowKit
noncomputable def low2 : Nat := (World.holding Tryz.prog default ⟨#[], #[], []⟩).heap.size
def rangeT : List UInt8 := [118, 97, 108, 117, 101, 32, 111, 117, 116, 32, 111, 102, 32, 114, 97, 110, 103, 101]
def syntaxT : List UInt8 := [105, 110, 118, 97, 108, 105, 100, 32, 115, 121, 110, 116, 97, 120]
noncomputable def laidWorld2 (os : Os) (args : Array Value) : World :=
  { World.holding Tryz.prog os ⟨#[.cells #[.string ⟨rangeT.toArray⟩] 332, .cells #[.string ⟨syntaxT.toArray⟩] 332], args, []⟩ with heap := (((((((World.holding Tryz.prog os ⟨#[.cells #[.string ⟨rangeT.toArray⟩] 332, .cells #[.string ⟨syntaxT.toArray⟩] 332], args, []⟩).heap.modify 2 (layCells firstCells)).modify 3 (layCells (tabCells .u8 rangeZ))).modify 4 (layCells (tabCells .u8 tz32Z))).modify 5 (layCells (tabCells .u8 tz64Z))).modify 1 (layCells (tabCells .u64 pow10Z))).modify 7 (layCells #[.iface 330 (.pointer (some ⟨low2, 0, none⟩))])).modify 6 (layCells #[.iface 330 (.pointer (some ⟨low2 + 1, 0, none⟩))]) }
end Go.Proofs.YtgbldojgbpgjbaaGreatDoor
end
