/- Lists of tables: checkAll, and the places of a frame. Conditions: those of each theorem. -/
import Derived.Test.YtofolhnecfkjkaaDoorFrs
import Derived.Test.YtofolhnecfkjkaaDoorRefPl
namespace Go.Proofs.YtofolhnecfkjkaaDoor
set_option linter.unusedSimpArgs false
set_option linter.unusedVariables false
set_option maxRecDepth 20000
open Go.RowKit Go.Eng
structure TabsOk (w : World) (l : Sl Tab) : Prop where
  ok : l.Ok Tab.enc 6 w
  q : l.q ≤ 4611686018427387904
  n : ∀ t ∈ l.l, t.Ok w
theorem TabsOk.below {w w' : World} {l : Sl Tab} (h : TabsOk w l) (hb : Below w.heap.size w w') : TabsOk w' l := ⟨h.ok.below hb, h.q, fun t ht => (h.n t ht).below hb⟩
structure ModsOk (w : World) (l : Sl SMod) : Prop where
  ok : l.Ok SMod.enc 4 w
  q : l.q ≤ 4611686018427387904
  n : ∀ m ∈ l.l, m.name.length ≤ 4611686018427387904 ∧ m.id.length ≤ 4611686018427387904
theorem ModsOk.below {w w' : World} {l : Sl SMod} (h : ModsOk w l) (hb : Below w.heap.size w w') : ModsOk w' l := ⟨h.ok.below hb, h.q, h.n⟩
def tabsNo : List (List UInt8) → List Tab → Int
  | _, [] => 0
  | seen, t :: r => if tabNo t ≠ 0 then tabNo t else if t.id ∈ seen then 6 else tabsNo (seen ++ [t.id]) r
def modulesNo (l : Sl SMod) : Int := if (100 : Int) < l.q then 4 else modsNo l.l 0
def allNo (fs : Sl Frm) (ms : Sl SMod) (ts : Sl Tab) : Int := fst (framesNo fs) (fst (modulesNo ms) (if (100 : Int) < ts.q then 4 else tabsNo [] ts.l))
theorem tabs_right : ∀ (l : List Tab) (seen : List (List UInt8)), tabsNo seen l = 0 → ∀ t ∈ l, tabNo t = 0
  | [], _, _ => fun t h => by cases h
  | a :: r, seen, h => by
    unfold tabsNo at h
    split at h
    · rename_i h1; exact absurd h h1
    rename_i h1
    split at h
    · cases h
    intro t ht
    rcases List.mem_cons.1 ht with rfl | ht
    · simpa using h1
    · exact tabs_right r _ h t ht
theorem mods_right : ∀ (l : List SMod) (last : Int), modsNo l last = 0 → ∀ m ∈ l, 0 ≤ m.fr ∧ m.fr < m.to ∧ m.to ≤ 281474976710656
  | [], _, _ => fun t h => by cases h
  | a :: r, last, h => by
    unfold modsNo at h
    split at h
    · cases h
    split at h
    · rename_i h1; exact absurd h h1
    split at h
    · cases h
    split at h
    · cases h
    split at h
    · cases h
    rename_i h5
    split at h
    · cases h
    intro t ht
    rcases List.mem_cons.1 ht with rfl | ht
    · simp only [outB, Bool.or_eq_true, decide_eq_true_eq, not_or] at h5; omega
    · exact mods_right r _ h t ht
theorem IndexFuncT_any (A : Option Addr) (q c : Nat) (l : List Tab) (g : FuncId) (cap : Array Value) (p : Tab → Bool) (w : World) (hl : SlT Tab.enc 6 w A q l) (hq : q ≤ 4611686018427387904) (hA : Asks Tryd.prog Tab.enc w g cap p) :
    Calls Tryd.prog 81 #[.slice A q c, .func (.func g) #[] cap] w fun e w' => e = .returned (.int .i64 (findI p l 0)) ∧ Below w.heap.size w w' := by
  refine enter_args (args := [.slice A q c, .func (.func g) #[] cap]) (F := _) Tryd.func81 rfl Tryd.ntmps81 rfl rfl ?_
  intro Rb hRb hRn
  refine T_seq ?_
  refine T_region ?_
  refine S_ 4 rfl rfl rfl _ (y_assign rfl rfl) ?_
  refine S_go (fun _ _ h => h) ?_
  refine T_seq ?_
  refine T_seq ?_
  refine T_region ?_
  refine S_ 6 rfl rfl rfl _ (y_move rfl rfl) ?_
  refine S_ 7 rfl rfl rfl _ (y_len_slice rfl rfl Tryd.underlying58) ?_
  refine S_ 8 rfl rfl rfl _ (y_move rfl rfl) ?_
  refine S_go (fun _ _ h => h) ?_
  refine T_block ?_
  refine T_loopK1 (kf := [(4, 5), (8, 18)]) (kl := [(4, 5), (8, 18)]) (fun (i : Nat) => [(8, true, .int .i64 (i : Int))]) (fun (i : Nat) => []) (fun (i : Nat) => i ≤ q ∧ findI p l 0 = findI p (l.drop i) i) (fun (i : Nat) => q - i) 0 (by repeat (first | exact kf_nil | (apply kf_in; focus rfl) | (apply kf_out; focus rfl))) (by repeat (first | exact kl_nil | exact kl_rest (by assumption) rfl | (apply kl_in; focus rfl) | (apply kl_out; focus rfl))) ?_ ?_ ?_ ?_
  · exact ⟨by omega, rfl⟩
  · exact ⟨rfl, trivial⟩
  · exact trivial
  rintro i ⟨hp1, hp2⟩
  refine T_seq ?_
  refine T_region ?_
  refine S_ 9 rfl rfl rfl _ (y_bin rfl rfl rfl (fun _ => b_lss)) ?_
  refine S_go (fun _ _ h => h) ?_
  refine T_seq ?_
  refine T_cond rfl (fun h9 => ?_) (fun h9 => ?_)
  · try simp only [decide_eq_true_eq, decide_eq_false_iff_not, Bool.or_eq_true, Bool.or_eq_false_iff, Bool.and_eq_true, Bool.and_eq_false_iff, Bool.not_eq_true', Bool.not_eq_false', Bool.not_eq_true, Bool.not_eq_false, Bool.not_true, Bool.not_false, Int.not_lt, Int.not_le, not_or, not_and, Classical.not_not] at h9
    obtain ⟨x, hx1, hx2⟩ := hl.at (i := i) (by omega)
    refine T_skip_go (fun _ _ h => h) ?_
    refine T_seq ?_
    refine T_block ?_
    refine T_seq ?_
    refine T_region ?_
    refine S_ 10 rfl rfl rfl _ (y_move rfl rfl) ?_
    refine S_ 5 rfl rfl rfl _ (y_assign rfl rfl) ?_
    refine S_go (fun _ _ h => h) ?_
    refine T_seq ?_
    refine T_region ?_
    refine S_ 11 rfl rfl rfl _ (y_move rfl rfl) ?_
    refine S_ 12 rfl rfl rfl _ (y_move rfl rfl) ?_
    refine S_ 13 rfl rfl rfl _ (y_move rfl rfl) ?_
    refine S_ 14 rfl rfl rfl _ (y_indexAddr rfl rfl rfl Tryd.underlying58 sz27 (fun hg => hl.isSome (by omega)) (fun _ => by omega)) ?_
    refine S_ 15 rfl rfl rfl _ (y_loadT rfl rfl hl (fun _ => rfl) (fun _ => hx1) Tryd.underlying27 rfl sz27) ?_
    refine S_ 16 rfl rfl rfl _ (y_call rfl rfl rfl hA.1 (fun _ w hM => hA.2 x w hM.below)) ?_
    refine S_go (fun _ _ h => h) ?_
    refine T_cond rfl (fun h16 => ?_) (fun h16 => ?_)
    · try simp only [decide_eq_true_eq, decide_eq_false_iff_not, Bool.or_eq_true, Bool.or_eq_false_iff, Bool.and_eq_true, Bool.and_eq_false_iff, Bool.not_eq_true', Bool.not_eq_false', Bool.not_eq_true, Bool.not_eq_false, Bool.not_true, Bool.not_false, Int.not_lt, Int.not_le, not_or, not_and, Classical.not_not] at h16
      refine T_seq ?_
      refine T_region ?_
      refine S_ 17 rfl rfl rfl _ (y_move rfl rfl) ?_
      refine S_ 4 rfl rfl rfl _ (y_assign rfl rfl) ?_
      refine S_go (fun _ _ h => h) ?_
      refine T_ret (fun a w hF hM => hRb a w (post1 rfl rfl (fun w hM => ?_) a w hF hM))
      exact ⟨by rw [hp2, hx2, findI_t h16], hM.below⟩
    · try simp only [decide_eq_true_eq, decide_eq_false_iff_not, Bool.or_eq_true, Bool.or_eq_false_iff, Bool.and_eq_true, Bool.and_eq_false_iff, Bool.not_eq_true', Bool.not_eq_false', Bool.not_eq_true, Bool.not_eq_false, Bool.not_true, Bool.not_false, Int.not_lt, Int.not_le, not_or, not_and, Classical.not_not] at h16
      refine T_skip_go (fun _ _ h => h) ?_
      refine T_region ?_
      refine S_ 18 rfl rfl rfl _ (y_bin rfl rfl rfl (fun hg => b_add (by omega))) ?_
      refine S_ 8 rfl rfl rfl _ (y_move rfl rfl) ?_
      refine S_nil (nextK1 (kf := [(4, 5), (8, 18)]) (kl := [(4, 5), (8, 18)]) (i + 1) (by repeat (first | exact kf_nil | (apply kf_in; focus rfl) | (apply kf_out; focus rfl))) (by repeat (first | exact kl_nil | exact kl_rest (by assumption) rfl | (apply kl_in; focus rfl) | (apply kl_out; focus rfl))) ?_ ?_ ?_ ?_)
      · omega
      · exact ⟨by omega, by rw [hp2, hx2, findI_f h16]; rfl⟩
      · exact ⟨rfl, trivial⟩
      · exact trivial
  · try simp only [decide_eq_true_eq, decide_eq_false_iff_not, Bool.or_eq_true, Bool.or_eq_false_iff, Bool.and_eq_true, Bool.and_eq_false_iff, Bool.not_eq_true', Bool.not_eq_false', Bool.not_eq_true, Bool.not_eq_false, Bool.not_true, Bool.not_false, Int.not_lt, Int.not_le, not_or, not_and, Classical.not_not] at h9
    refine T_exit_go (fun _ _ h => h) ?_
    refine T_seq ?_
    refine T_region ?_
    refine S_ 4 rfl rfl rfl _ (y_assign rfl rfl) ?_
    refine S_go (fun _ _ h => h) ?_
    refine T_ret (fun a w hF hM => hRb a w (post1 rfl rfl (fun w hM => ?_) a w hF hM))
    exact ⟨by rw [hp2, hl.end (by omega)]; rfl, hM.below⟩
theorem ContainsFuncT_any (A : Option Addr) (q c : Nat) (l : List Tab) (g : FuncId) (cap : Array Value) (p : Tab → Bool) (w : World) (hl : SlT Tab.enc 6 w A q l) (hq : q ≤ 4611686018427387904) (hA : Asks Tryd.prog Tab.enc w g cap p) :
    Calls Tryd.prog 35 #[.slice A q c, .func (.func g) #[] cap] w fun e w' => e = .returned (.bool (l.any p)) ∧ Below w.heap.size w w' := by
  rw [← findI_any p l 0 (by omega)]
  refine enter_args (args := [.slice A q c, .func (.func g) #[] cap]) (F := _) Tryd.func35 rfl Tryd.ntmps35 rfl rfl ?_
  intro Rb hRb hRn
  refine T_seq ?_
  refine T_region ?_
  refine S_ 4 rfl rfl rfl _ (y_assign rfl rfl) ?_
  refine S_go (fun _ _ h => h) ?_
  refine T_seq ?_
  refine T_region ?_
  refine S_ 5 rfl rfl rfl _ (y_move rfl rfl) ?_
  refine S_ 6 rfl rfl rfl _ (y_move rfl rfl) ?_
  refine S_ 7 rfl rfl rfl _ (y_call rfl rfl rfl cf81 (fun _ w hM => IndexFuncT_any _ _ _ _ _ _ p w (hl.below hM.below) hq ⟨hA.1, fun x w' hb => hA.2 x w' (hM.below.trans (hb.mono hM.below.size))⟩)) ?_
  refine S_ 8 rfl rfl rfl _ (y_bin rfl rfl rfl (fun _ => b_geq)) ?_
  refine S_ 4 rfl rfl rfl _ (y_assign rfl rfl) ?_
  refine S_go (fun _ _ h => h) ?_
  refine T_ret (fun a w hF hM => hRb a w (post1 rfl rfl (fun w hM => ?_) a w hF hM))
  exact ⟨rfl, hM.below⟩
def Tab.hasId (s : List UInt8) (t : Tab) : Bool := decide (t.id = s)
theorem placesOf1_any (t : Tab) (a1 a2 : Addr) (ms : Sl SMod) (n : Nat) (m : SMod) (w : World) (hms : ms.Ok SMod.enc 4 w) (hm : ms.l[n]? = some m) (hb1 : a1.block < w.heap.size) (hb2 : a2.block < w.heap.size) (h1 : w.cell? a1 = some (.slice ms.A ms.q ms.c)) (h2 : w.cell? a2 = some (.int .i64 (n : Int))) :
    Calls Tryd.prog 117 #[.agg t.enc.toArray, .pointer (some a1), .pointer (some a2)] w fun e w' => e = .returned (.bool (t.hasId m.id)) ∧ Below w.heap.size w w' := by
  have ht := hms.t
  have hlen := ht.len
  have hnl := (List.getElem?_eq_some_iff.1 hm).1
  refine enter_args (args := [.agg #[str t.id, .int .i64 t.size, .slice t.fi.A t.fi.q t.fi.c, .slice t.fu.A t.fu.q t.fu.c, .slice t.ro.A t.ro.q t.ro.c, .slice t.ca.A t.ca.q t.ca.c], .pointer (some a1), .pointer (some a2)]) (F := _) Tryd.func117 rfl Tryd.ntmps117 rfl rfl ?_
  intro Rb hRb hRn
  refine T_seq ?_
  refine T_region ?_
  refine S_box 3 3 rfl rfl rfl rfl rfl ?_
  intro b3
  refine S_ 4 rfl rfl rfl _ (y_assign rfl rfl) ?_
  refine S_go (fun _ _ h => h) ?_
  refine T_seq ?_
  refine T_draws (by kernel_rfl) (by kernel_rfl) ?_
  refine D_ 5 rfl rfl rfl _ (y_fieldAddr rfl rfl fa27_0) ?_
  refine D_ 6 rfl rfl rfl _ (y_load 3 rfl rfl rfl rfl Tryd.underlying9 rfl) ?_
  refine D_ 7 rfl rfl rfl _ (y_load_far rfl rfl h1 hb1 Tryd.underlying28 rfl) ?_
  refine D_ 8 rfl rfl rfl _ (y_load_far rfl rfl h2 hb2 Tryd.underlying3 rfl) ?_
  refine D_ 9 rfl rfl rfl _ (y_indexAddrI (j := n) rfl rfl rfl (fun _ => by omega) Tryd.underlying28 sz86 (fun hg => ht.isSome (by omega)) (fun _ => by omega)) ?_
  refine D_ 10 rfl rfl rfl _ (y_fieldEl rfl rfl ht.rd (fun _ => by omega) fa86_1) ?_
  refine D_ 11 rfl rfl rfl _ (y_load_fT rfl rfl ht (fun _ => rfl) (fun _ => hm) rfl Tryd.underlying9 rfl) ?_
  refine D_ 12 rfl rfl rfl _ (y_bin rfl rfl rfl (fun _ => b_eqls)) ?_
  refine D_ 4 rfl rfl rfl _ (y_assign rfl rfl) ?_
  refine D_go (fun _ _ h => h) ?_
  refine T_ret (fun a w hF hM => hRb a w (post1 rfl rfl (fun w hM => ?_) a w hF hM))
  exact ⟨rfl, hM.below⟩
theorem asks_placesOf {b1 b2 : Nat} {ms : Sl SMod} {n : Nat} {m : SMod} {w : World} (hms : ms.Ok SMod.enc 4 w) (hm : ms.l[n]? = some m) (h1 : w.cell? ⟨b1, 0, none⟩ = some (.slice ms.A ms.q ms.c) ∧ b1 < w.heap.size) (h2 : w.cell? ⟨b2, 0, none⟩ = some (.int .i64 (n : Int)) ∧ b2 < w.heap.size) :
    Asks Tryd.prog Tab.enc w 117 #[.pointer (some ⟨b1, 0, none⟩), .pointer (some ⟨b2, 0, none⟩)] (Tab.hasId m.id) :=
  ⟨cf117, fun t w' hb => placesOf1_any t ⟨b1, 0, none⟩ ⟨b2, 0, none⟩ ms n m w' (hms.below hb) hm (Nat.lt_of_lt_of_le h1.2 hb.size) (Nat.lt_of_lt_of_le h2.2 hb.size) ((hb.cell h1.2).trans h1.1) ((hb.cell h2.2).trans h2.1)⟩
theorem checkAll_any (fs : Sl Frm) (ms : Sl SMod) (ts : Sl Tab) (w : World) (hfs : FrmsOk w fs) (hms : ModsOk w ms) (hts : TabsOk w ts) :
    Calls Tryd.prog 76 #[.slice fs.A fs.q fs.c, .slice ms.A ms.q ms.c, .slice ts.A ts.q ts.c] w fun e w' => e = .returned (.int .i64 (allNo fs ms ts)) ∧ Below w.heap.size w w' := by
  have ht := hts.ok.t
  have hq := hts.q
  refine enter_args (args := [.slice fs.A fs.q fs.c, .slice ms.A ms.q ms.c, .slice ts.A ts.q ts.c]) (F := _) Tryd.func76 rfl Tryd.ntmps76 rfl rfl ?_
  intro Rb hRb hRn
  refine T_seq ?_
  refine T_region ?_
  refine S_ 6 rfl rfl rfl _ (y_assign rfl rfl) ?_
  refine S_go (fun _ _ h => h) ?_
  refine T_seq ?_
  refine T_seq ?_
  refine T_region ?_
  refine S_ 16 rfl rfl rfl _ (y_move rfl rfl) ?_
  refine S_callM 17 [] (X := Value) rfl rfl rfl rfl rfl rfl rfl cf116 rfl (fun z => .tuple #[z, .int .i64 0, .int .i64 (framesNo fs)]) (fun _ => True) (fun _ => []) (fun _ => rfl) (fun _ => rfl) (fun K hK w hM => (Cut200_any fs w (hfs.below hM.below)).mono fun e w2 ⟨z, he, hb⟩ => ⟨z, he, trivial, hM.call hb⟩) ?_
  intro z _
  refine S_ 15 rfl rfl rfl _ (y_move rfl rfl) ?_
  refine S_ 18 rfl rfl rfl _ (y_extract rfl rfl rfl) ?_
  refine S_ 19 rfl rfl rfl _ (y_extract rfl rfl rfl) ?_
  refine S_ 20 rfl rfl rfl _ (y_extract rfl rfl rfl) ?_
  refine S_ 7 rfl rfl rfl _ (y_assign rfl rfl) ?_
  refine S_ 8 rfl rfl rfl _ (y_assign rfl rfl) ?_
  refine S_ 9 rfl rfl rfl _ (y_assign rfl rfl) ?_
  refine S_go (fun _ _ h => h) ?_
  refine T_seq ?_
  refine T_region ?_
  refine S_ 21 rfl rfl rfl _ (y_move rfl rfl) ?_
  refine S_ 22 rfl rfl rfl _ (y_bin rfl rfl rfl (fun _ => b_neq)) ?_
  refine S_go (fun _ _ h => h) ?_
  refine T_cond rfl (fun h22 => ?_) (fun h22 => ?_)
  · try simp only [decide_eq_true_eq, decide_eq_false_iff_not, Bool.or_eq_true, Bool.or_eq_false_iff, Bool.and_eq_true, Bool.and_eq_false_iff, Bool.not_eq_true', Bool.not_eq_false', Bool.not_eq_true, Bool.not_eq_false, Bool.not_true, Bool.not_false, Int.not_lt, Int.not_le, not_or, not_and, Classical.not_not] at h22
    refine T_seq ?_
    refine T_region ?_
    refine S_ 23 rfl rfl rfl _ (y_move rfl rfl) ?_
    refine S_ 6 rfl rfl rfl _ (y_assign rfl rfl) ?_
    refine S_go (fun _ _ h => h) ?_
    refine T_ret (fun a w hF hM => hRb a w (post1 rfl rfl (fun w hM => ?_) a w hF hM))
    exact ⟨by rw [allNo, fst_a rfl h22]; rfl, hM.below⟩
  · try simp only [decide_eq_true_eq, decide_eq_false_iff_not, Bool.or_eq_true, Bool.or_eq_false_iff, Bool.and_eq_true, Bool.and_eq_false_iff, Bool.not_eq_true', Bool.not_eq_false', Bool.not_eq_true, Bool.not_eq_false, Bool.not_true, Bool.not_false, Int.not_lt, Int.not_le, not_or, not_and, Classical.not_not] at h22
    refine T_skip_go (fun _ _ h => h) ?_
    refine T_seq ?_
    refine T_seq ?_
    refine T_region ?_
    refine S_ 24 rfl rfl rfl _ (y_move rfl rfl) ?_
    refine S_ 25 rfl rfl rfl _ (y_call rfl rfl rfl cf15 (fun _ w hM => CheckModules_any ms w (hms.ok.below hM.below) hms.q hms.n)) ?_
    refine S_ 10 rfl rfl rfl _ (y_assign rfl rfl) ?_
    refine S_go (fun _ _ h => h) ?_
    refine T_seq ?_
    refine T_region ?_
    refine S_ 26 rfl rfl rfl _ (y_move rfl rfl) ?_
    refine S_ 27 rfl rfl rfl _ (y_bin rfl rfl rfl (fun _ => b_neq)) ?_
    refine S_go (fun _ _ h => h) ?_
    refine T_cond rfl (fun h27 => ?_) (fun h27 => ?_)
    · try simp only [decide_eq_true_eq, decide_eq_false_iff_not, Bool.or_eq_true, Bool.or_eq_false_iff, Bool.and_eq_true, Bool.and_eq_false_iff, Bool.not_eq_true', Bool.not_eq_false', Bool.not_eq_true, Bool.not_eq_false, Bool.not_true, Bool.not_false, Int.not_lt, Int.not_le, not_or, not_and, Classical.not_not] at h27
      refine T_seq ?_
      refine T_region ?_
      refine S_ 28 rfl rfl rfl _ (y_move rfl rfl) ?_
      refine S_ 6 rfl rfl rfl _ (y_assign rfl rfl) ?_
      refine S_go (fun _ _ h => h) ?_
      refine T_ret (fun a w hF hM => hRb a w (post1 rfl rfl (fun w hM => ?_) a w hF hM))
      exact ⟨by rw [allNo, modulesNo, fst_b h22 (fst_a rfl h27)], hM.below⟩
    · try simp only [decide_eq_true_eq, decide_eq_false_iff_not, Bool.or_eq_true, Bool.or_eq_false_iff, Bool.and_eq_true, Bool.and_eq_false_iff, Bool.not_eq_true', Bool.not_eq_false', Bool.not_eq_true, Bool.not_eq_false, Bool.not_true, Bool.not_false, Int.not_lt, Int.not_le, not_or, not_and, Classical.not_not] at h27
      refine T_skip_go (fun _ _ h => h) ?_
      refine T_seq ?_
      refine T_seq ?_
      refine T_region ?_
      refine S_ 29 rfl rfl rfl _ (y_move rfl rfl) ?_
      refine S_ 30 rfl rfl rfl _ (y_len_slice rfl rfl Tryd.underlying58) ?_
      refine S_ 31 rfl rfl rfl _ (y_bin rfl rfl rfl (fun _ => b_gtr)) ?_
      refine S_go (fun _ _ h => h) ?_
      refine T_cond rfl (fun h31 => ?_) (fun h31 => ?_)
      · try simp only [decide_eq_true_eq, decide_eq_false_iff_not, Bool.or_eq_true, Bool.or_eq_false_iff, Bool.and_eq_true, Bool.and_eq_false_iff, Bool.not_eq_true', Bool.not_eq_false', Bool.not_eq_true, Bool.not_eq_false, Bool.not_true, Bool.not_false, Int.not_lt, Int.not_le, not_or, not_and, Classical.not_not] at h31
        refine T_seq ?_
        refine T_region ?_
        refine S_ 6 rfl rfl rfl _ (y_assign rfl rfl) ?_
        refine S_go (fun _ _ h => h) ?_
        refine T_ret (fun a w hF hM => hRb a w (post1 rfl rfl (fun w hM => ?_) a w hF hM))
        exact ⟨by rw [allNo, modulesNo, fst_b h22 (fst_b h27 (if_pos (by omega)))], hM.below⟩
      · try simp only [decide_eq_true_eq, decide_eq_false_iff_not, Bool.or_eq_true, Bool.or_eq_false_iff, Bool.and_eq_true, Bool.and_eq_false_iff, Bool.not_eq_true', Bool.not_eq_false', Bool.not_eq_true, Bool.not_eq_false, Bool.not_true, Bool.not_false, Int.not_lt, Int.not_le, not_or, not_and, Classical.not_not] at h31
        refine T_skip_go (fun _ _ h => h) ?_
        refine T_seq ?_
        refine T_region ?_
        refine S_makeMap 32 32 (fun l : List UInt8 => str l) rfl rfl rfl rfl ?_
        intro b32
        refine S_ 11 rfl rfl rfl _ (y_assign rfl rfl) ?_
        refine S_go (fun _ _ h => h) ?_
        refine T_seq ?_
        refine T_seq ?_
        refine T_region ?_
        refine S_ 33 rfl rfl rfl _ (y_move rfl rfl) ?_
        refine S_ 34 rfl rfl rfl _ (y_len_slice rfl rfl Tryd.underlying58) ?_
        refine S_ 35 rfl rfl rfl _ (y_move rfl rfl) ?_
        refine S_go (fun _ _ h => h) ?_
        refine T_block ?_
        refine T_loopK1 (kf := [(6, 6), (13, 14), (35, 51)]) (kl := [(6, 6), (13, 14), (32, 32), (35, 51)]) (fun (i : Nat) => [(35, true, .int .i64 (i : Int))]) (fun (i : Nat) => [(32, .blk b32 (IsMap (fun l : List UInt8 => str l) (((ts.l.take i).map Tab.id).map fun s => (s, Value.bool true))))]) (fun (i : Nat) => i ≤ ts.q ∧ tabsNo [] ts.l = tabsNo ((ts.l.take i).map Tab.id) (ts.l.drop i)) (fun (i : Nat) => ts.q - i) 0 (by repeat (first | exact kf_nil | (apply kf_in; focus rfl) | (apply kf_out; focus rfl))) (by repeat (first | exact kl_nil | exact kl_rest (by assumption) rfl | (apply kl_in; focus rfl) | (apply kl_out; focus rfl))) ?_ ?_ ?_ ?_
        · exact ⟨by omega, rfl⟩
        · exact ⟨rfl, trivial⟩
        · exact ⟨rfl, trivial⟩
        rintro i ⟨hp1, hp2⟩
        refine T_seq ?_
        refine T_region ?_
        refine S_ 36 rfl rfl rfl _ (y_bin rfl rfl rfl (fun _ => b_lss)) ?_
        refine S_go (fun _ _ h => h) ?_
        refine T_seq ?_
        refine T_cond rfl (fun h36 => ?_) (fun h36 => ?_)
        · try simp only [decide_eq_true_eq, decide_eq_false_iff_not, Bool.or_eq_true, Bool.or_eq_false_iff, Bool.and_eq_true, Bool.and_eq_false_iff, Bool.not_eq_true', Bool.not_eq_false', Bool.not_eq_true, Bool.not_eq_false, Bool.not_true, Bool.not_false, Int.not_lt, Int.not_le, not_or, not_and, Classical.not_not] at h36
          obtain ⟨t, hx1, hx2⟩ := ht.at (i := i) (by omega)
          refine T_skip_go (fun _ _ h => h) ?_
          refine T_seq ?_
          refine T_block ?_
          refine T_seq ?_
          refine T_region ?_
          refine S_ 37 rfl rfl rfl _ (y_indexAddr rfl rfl rfl Tryd.underlying58 sz27 (fun hg => ht.isSome (by omega)) (fun _ => by omega)) ?_
          refine S_ 38 rfl rfl rfl _ (y_loadT rfl rfl ht (fun _ => rfl) (fun _ => hx1) Tryd.underlying27 rfl sz27) ?_
          refine S_alloc 13 13 rfl rfl rfl rfl z27 ?_
          intro b13
          refine S_store 13 rfl rfl rfl rfl rfl rfl sz27 rfl rfl ?_
          refine S_go (fun _ _ h => h) ?_
          refine T_seq ?_
          refine T_seq ?_
          refine T_region ?_
          refine S_ 39 rfl rfl rfl _ (y_loadA 13 rfl rfl rfl Tryd.underlying27 rfl sz27) ?_
          refine S_ 40 rfl rfl rfl _ (y_call rfl rfl rfl cf13 (fun _ w hM => CheckTable_any t w ((hts.n t (mem_at hx1)).below hM.below))) ?_
          refine S_ 14 rfl rfl rfl _ (y_assign rfl rfl) ?_
          refine S_go (fun _ _ h => h) ?_
          refine T_seq ?_
          refine T_region ?_
          refine S_ 41 rfl rfl rfl _ (y_move rfl rfl) ?_
          refine S_ 42 rfl rfl rfl _ (y_bin rfl rfl rfl (fun _ => b_neq)) ?_
          refine S_go (fun _ _ h => h) ?_
          refine T_cond rfl (fun h42 => ?_) (fun h42 => ?_)
          · try simp only [decide_eq_true_eq, decide_eq_false_iff_not, Bool.or_eq_true, Bool.or_eq_false_iff, Bool.and_eq_true, Bool.and_eq_false_iff, Bool.not_eq_true', Bool.not_eq_false', Bool.not_eq_true, Bool.not_eq_false, Bool.not_true, Bool.not_false, Int.not_lt, Int.not_le, not_or, not_and, Classical.not_not] at h42
            refine T_seq ?_
            refine T_region ?_
            refine S_ 43 rfl rfl rfl _ (y_move rfl rfl) ?_
            refine S_ 6 rfl rfl rfl _ (y_assign rfl rfl) ?_
            refine S_go (fun _ _ h => h) ?_
            refine T_ret (fun a w hF hM => hRb a w (post1 rfl rfl (fun w hM => ?_) a w hF hM))
            exact ⟨by rw [allNo, modulesNo, fst_b h22 (fst_b h27 (if_neg (by omega))), hp2, hx2, tabsNo, if_pos h42], hM.below⟩
          · try simp only [decide_eq_true_eq, decide_eq_false_iff_not, Bool.or_eq_true, Bool.or_eq_false_iff, Bool.and_eq_true, Bool.and_eq_false_iff, Bool.not_eq_true', Bool.not_eq_false', Bool.not_eq_true, Bool.not_eq_false, Bool.not_true, Bool.not_false, Int.not_lt, Int.not_le, not_or, not_and, Classical.not_not] at h42
            refine T_skip_go (fun _ _ h => h) ?_
            refine T_seq ?_
            refine T_seq ?_
            refine T_region ?_
            refine S_ 44 rfl rfl rfl _ (y_move rfl rfl) ?_
            refine S_ 45 rfl rfl rfl _ (y_fieldAddr rfl rfl fa27_0) ?_
            refine S_ 46 rfl rfl rfl _ (y_load 13 rfl rfl rfl rfl Tryd.underlying9 rfl) ?_
            refine S_ 47 rfl rfl rfl _ (y_as (v' := .bool (decide (t.id ∈ (ts.l.take i).map Tab.id))) (by exact mget_set t.id _) (y_lookup 32 (enc := fun l : List UInt8 => str l) rfl rfl rfl rfl Tryd.underlying133 Tryd.underlying9 rfl same_str z4)) ?_
            refine S_go (fun _ _ h => h) ?_
            refine T_cond rfl (fun h47 => ?_) (fun h47 => ?_)
            · try simp only [decide_eq_true_eq, decide_eq_false_iff_not, Bool.or_eq_true, Bool.or_eq_false_iff, Bool.and_eq_true, Bool.and_eq_false_iff, Bool.not_eq_true', Bool.not_eq_false', Bool.not_eq_true, Bool.not_eq_false, Bool.not_true, Bool.not_false, Int.not_lt, Int.not_le, not_or, not_and, Classical.not_not] at h47
              refine T_seq ?_
              refine T_region ?_
              refine S_ 6 rfl rfl rfl _ (y_assign rfl rfl) ?_
              refine S_go (fun _ _ h => h) ?_
              refine T_ret (fun a w hF hM => hRb a w (post1 rfl rfl (fun w hM => ?_) a w hF hM))
              exact ⟨by rw [allNo, modulesNo, fst_b h22 (fst_b h27 (if_neg (by omega))), hp2, hx2, tabsNo, if_neg (by simpa using h42), if_pos h47], hM.below⟩
            · try simp only [decide_eq_true_eq, decide_eq_false_iff_not, Bool.or_eq_true, Bool.or_eq_false_iff, Bool.and_eq_true, Bool.and_eq_false_iff, Bool.not_eq_true', Bool.not_eq_false', Bool.not_eq_true, Bool.not_eq_false, Bool.not_true, Bool.not_false, Int.not_lt, Int.not_le, not_or, not_and, Classical.not_not] at h47
              refine T_skip_go (fun _ _ h => h) ?_
              refine T_region ?_
              refine S_ 48 rfl rfl rfl _ (y_move rfl rfl) ?_
              refine S_ 49 rfl rfl rfl _ (y_fieldAddr rfl rfl fa27_0) ?_
              refine S_ 50 rfl rfl rfl _ (y_load 13 rfl rfl rfl rfl Tryd.underlying9 rfl) ?_
              refine S_mapUpdate 32 (enc := fun l : List UInt8 => str l) rfl rfl rfl rfl rfl rfl rfl Tryd.underlying133 Tryd.underlying9 rfl same_str fits_str (mput_set _ _ h47) ?_
              refine S_go (fun _ _ h => h) ?_
              refine T_region ?_
              refine S_ 51 rfl rfl rfl _ (y_bin rfl rfl rfl (fun hg => b_add (by omega))) ?_
              refine S_ 35 rfl rfl rfl _ (y_move rfl rfl) ?_
              refine S_nil (nextK1 (kf := [(6, 6), (13, 14), (35, 51)]) (kl := [(6, 6), (13, 14), (32, 32), (35, 51)]) (i + 1) (by repeat (first | exact kf_nil | (apply kf_in; focus rfl) | (apply kf_out; focus rfl))) (by repeat (first | exact kl_none | exact kl_tail (by assumption) rfl (by repeat (first | exact ti_refl | (apply ti_cons; focus rfl))) | refine kl_cons rfl rfl ?_)) ?_ ?_ ?_ ?_)
              · omega
              · exact ⟨by omega, by rw [hp2, hx2, tabsNo, if_neg (by simpa using h42), if_neg h47, take_succ_at hx1, List.map_append]; rfl⟩
              · exact ⟨rfl, trivial⟩
              · exact ⟨by rw [take_succ_at hx1, List.map_append (f := Tab.id)]; rfl, trivial⟩
        · try simp only [decide_eq_true_eq, decide_eq_false_iff_not, Bool.or_eq_true, Bool.or_eq_false_iff, Bool.and_eq_true, Bool.and_eq_false_iff, Bool.not_eq_true', Bool.not_eq_false', Bool.not_eq_true, Bool.not_eq_false, Bool.not_true, Bool.not_false, Int.not_lt, Int.not_le, not_or, not_and, Classical.not_not] at h36
          refine T_exit_go (fun _ _ h => h) ?_
          refine T_seq ?_
          refine T_region ?_
          refine S_ 6 rfl rfl rfl _ (y_assign rfl rfl) ?_
          refine S_go (fun _ _ h => h) ?_
          refine T_ret (fun a w hF hM => hRb a w (post1 rfl rfl (fun w hM => ?_) a w hF hM))
          exact ⟨by rw [allNo, modulesNo, fst_b h22 (fst_b h27 (if_neg (by omega))), hp2, ht.end (by omega)]; rfl, hM.below⟩
end Go.Proofs.YtofolhnecfkjkaaDoor
