/- Part 4, merged by a program. Resolve. Conditions: those of the theorem. What Resolve returns is right: frames of the tables' right places. Printed in the namespace of the Symbol texts. No program in sight. strings.Join at any separator; what is said of a text in lines. Conditions: those of each theorem. What a right event's parts are, and how long its text is. Conditions: those of each theorem. stack.writeInner and stack.Write in the form Inner: right faults written. Conditions: those of each theorem. A row of strings of the call's own. No condition. event.Text: an event written. Conditions: those of each theorem. The reference's lines of faults: numbers, names, places, heads, Written in the form Inner. Conditions: those of each theorem. The reference's readers of numbers, words and lines: the plain facts. Plain lists. The reference's readers of a number, a word, a frame's line and a fault's line. Conditions: those of each theorem. The reference's reader of an event's head goes by stages: what it lets follow is what the program lets follow. Plain lists. The reference's frameOf and frameLine. Conditions: those of each theorem. What is written is read back: numbers, the line of a frame, the line of a fault. Plain lists. What is written is read back: the line of a frame, the line of a fault. Plain lists. The reference's inner: faults read from lines. Conditions: those of each theorem. The reference's errors of frames and faults. Conditions: those of each theorem. The reference's FaultsRead in the form Inner. Conditions: those of each theorem. What is written is read back: faults in the form Inner. Plain lists. The reference's reader of an event's head, and eventRead of the law. Conditions: those of each theorem. The reference's Written in the form Inner, EventHead, and eventText of the law. Conditions: those of each theorem. The reference's EventHead, and eventText of the law. Conditions: those of each theorem. eventRead of the law, and the law EventTexts. Conditions: those of each theorem. What is written is read back: the head of an event, and an event. Plain lists. Reads through a fact of the memory at the time; frames of the Symbol family and of the Event family; a fault with new frames. Conditions: those of each theorem. The law TopResolved, for all arguments. Conditions: the arguments lie in memory, the tables of the numbers hold Go's. Tables and modules opened: from the form's reading to 'Tab.Ok'. No condition. Frames, modules and lists of tables opened: from the form's reading to FrmsOk, ModsOk and TabsOk. No condition. A world in which the listed tables of Go's hold what their text says, and what a row's condition says of the table of trailing noughts. No condition. A world in which the listed tables hold what their text says, and the two errors of strconv lie as their initialisers lay them. No condition. -/
import Derived.Test.YtgbldojgbpgjbaaGreatDoorZip
import Derived.Test.YtgbldojgbpgjbaaGreatDoorSjn
import Derived.Shelf.Strings.OnBuilder
import Derived.Lib.Join
import Derived.Test.YtgbldojgbpgjbaaGreatDoorPerm
import Derived.Test.YtgbldojgbpgjbaaGreatDoorTail
import Derived.Test.YtgbldojgbpgjbaaGreatDoorTree
import Derived.Test.YtgbldojgbpgjbaaGreatDoorSub
import Derived.Test.YtgbldojgbpgjbaaGreatDoorOpen
import Derived.Test.YtgbldojgbpgjbaaGreatDoorCards
import Derived.Test.YtgbldojgbpgjbaaGreatDoorTie
import Derived.Deep.DeepHandedRow
import Derived.Lib.LaidTab
import Derived.Stop.LaidErr
import Derived.ProofKit
import Derived.OpenShut
import Derived.Test.YtgbldojgbpgjbaaGreatDoorPk3
section
namespace Go.Proofs.YtgbldojgbpgjbaaGreatDoor.Sy
set_option linter.unusedSimpArgs false
set_option linter.unusedVariables false
set_option maxRecDepth 20000
open Go.RowKit Go.Eng
def mkFrm (f : Frm) (m : List UInt8) (s : SPlace) : Frm := ⟨m, s.fn, s.fi, s.ln, f.ad, f.own⟩
def resOf (first : Bool) (f : Frm) (ms : List SMod) (ts : List Tab) : List Frm :=
  if (plOf f.ad first ms ts).1.length = 0 then [f] else (plOf f.ad first ms ts).1.map (mkFrm f (plOf f.ad first ms ts).2)
def resAll (ms : List SMod) (ts : List Tab) : Bool → List Frm → List Frm
  | _, [] => []
  | first, f :: r => resOf first f ms ts ++ resAll ms ts false r
def resNo (fs : Sl Frm) (ms : Sl SMod) (ts : Sl Tab) : Int := fst (allNo fs ms ts) (if (200 : Int) < ((resAll ms.l ts.l true fs.l).length : Int) then 4 else 0)
def resOut (fs : Sl Frm) (ms : Sl SMod) (ts : Sl Tab) : List Frm := if resNo fs ms ts = 0 then resAll ms.l ts.l true fs.l else []
set_option maxHeartbeats 800000 in
theorem Resolve_any (fs : Sl Frm) (ms : Sl SMod) (ts : Sl Tab) (w : World) (hfs : FrmsOk w fs) (hms : ModsOk w ms) (hts : TabsOk w ts) :
    Calls Tryz.prog 7 #[.slice fs.A fs.q fs.c, .slice ms.A ms.q ms.c, .slice ts.A ts.q ts.c] w fun e w' => ∃ A c, e = .returned (.tuple #[.slice A (resOut fs ms ts).length c, .int .i64 (resNo fs ms ts)]) ∧
      w'.ownsRow w.heap.size 45 6 (.slice A (resOut fs ms ts).length c) (resOut fs ms ts).length ((resOut fs ms ts).flatMap Frm.enc) ∧ Below w.heap.size w w' := by
  have hft := hfs.ok.t
  have hfq := hfs.q
  refine enter_args (args := [.slice fs.A fs.q fs.c, .slice ms.A ms.q ms.c, .slice ts.A ts.q ts.c]) (F := _) Tryz.func7 rfl Tryz.ntmps7 rfl rfl ?_
  intro Rb hRb hRn
  refine tx ?_
  refine S_nilSlice 6 (e := 45) (size := 6) ?_
  refine sr 2 ?_
  refine sgs ?_
  refine tx ?_
  refine sr 3 ?_
  refine s1 (y_call rfl rfl rfl cf27 (fun _ w hM => checkAll_any fs ms ts w (hfs.below hM.below) (hms.below hM.below) (hts.below hM.below))) ?_
  refine sr 1 ?_
  refine sgx ?_
  refine sr 2 ?_
  refine sgo ?_
  refine T_cond rfl ?_ ?_ <;> intro h21
  · try simp only [nrm] at h21
    refine tx ?_
    refine sr 1 ?_
    refine S_nilSlice 6 (e := 45) (size := 6) ?_
    refine sr 2 ?_
    refine sgo ?_
    refine tr2 hRb fun w hM => ?_
    have e1 : resNo fs ms ts = allNo fs ms ts := fst_a rfl h21
    have e : resOut fs ms ts = [] := if_neg (by rw [e1]; exact h21)
    rw [e, e1]
    exact ⟨none, 0, rfl, hM.sat 6 _ rfl, hM.below⟩
  try simp only [nrm] at h21
  obtain ⟨hq2, _, hm0, ht0⟩ := allNo_zero h21
  refine kgx ?_
  refine S_nilSlice 9 (e := 45) (size := 6) ?_
  refine sr 1 ?_
  refine sgs ?_
  refine tx ?_
  refine sr 1 ?_
  refine s1 (y_len_slice rfl rfl Tryz.underlying32) ?_
  refine sr 1 ?_
  refine sgo ?_
  refine T_block ?_
  refine lK5 (kf := [(9, 13), (15, 15), (25, 68)]) (kl := [(9, 13), (15, 15), (25, 68)]) (fun (i : Nat) (out : List Frm) (q : Nat) (A : Option Addr) (c : Nat) => [(25, true, .int .i64 (i : Int)), (9, true, .slice A q c)]) (fun (i : Nat) (out : List Frm) (q : Nat) (A : Option Addr) (c : Nat) => [(9, .own 45 6 (.slice A q c) q (out.flatMap Frm.enc))]) (fun (i : Nat) (out : List Frm) (q : Nat) (A : Option Addr) (c : Nat) => i ≤ fs.q ∧ q ≤ i * 1002 ∧ out.length = q ∧ resAll ms.l ts.l true fs.l = out ++ resAll ms.l ts.l (decide ((i : Int) = 0)) (fs.l.drop i)) (fun (i : Nat) (out : List Frm) (q : Nat) (A : Option Addr) (c : Nat) => fs.q - i) 0 [] 0 none 0 ?_ ?_ ?_ ?_
  · exact ⟨by omega, by omega, rfl, rfl⟩
  · exact ⟨rfl, rfl, trivial⟩
  · exact ⟨rfl, trivial⟩
  rintro i out q A c ⟨hp1, hp2, hp3, hp4⟩
  refine tx ?_
  refine sr 1 ?_
  refine sgs ?_
  refine T_cond rfl ?_ ?_ <;> intro h26
  · try simp only [nrm] at h26
    obtain ⟨f, hx1, hx2⟩ := hft.at (i := i) (by omega)
    have hpl := plOf_len hts.n ht0 f.ad (decide ((i : Int) = 0)) ms.l
    refine kgs ?_
    refine T_block ?_
    refine tx ?_
    refine sr 1 ?_
    refine s1 (y_indexAddr rfl rfl rfl Tryz.underlying32 sz45 (fun hg => hft.isSome (by omega)) (fun _ => by omega)) ?_
    refine s1 (y_loadT rfl rfl hft (fun _ => rfl) (fun _ => hx1) Tryz.underlying45 rfl sz45) ?_
    refine S_alloc 11 11 rfl rfl rfl rfl z45 ?_
    intro b11
    refine sr 1 ?_
    refine S_store 11 rfl rfl rfl rfl rfl rfl sz45 rfl rfl ?_
    refine sgx ?_
    refine s1 (yA 11 rfl Tryz.underlying45 sz45) ?_
    refine sr 4 ?_
    refine S_callOwn 36 36 rfl rfl rfl rfl rfl rfl rfl cf28 (fun A c => .tuple #[.slice A (plOf f.ad (decide ((i : Int) = 0)) ms.l ts.l).1.length c, str (plOf f.ad (decide ((i : Int) = 0)) ms.l ts.l).2]) 68 3 ((plOf f.ad (decide ((i : Int) = 0)) ms.l ts.l).1.length) ((plOf f.ad (decide ((i : Int) = 0)) ms.l ts.l).1.flatMap SPlace.enc) (fun w hM => placesOf_any f (decide ((i : Int) = 0)) ms ts w (hms.below hM.below) (hts.below hM.below) hm0 ht0) ?_
    intro A36 c36
    refine sr 5 ?_
    refine sgs ?_
    refine tx ?_
    refine sr 1 ?_
    refine s1 (y_len_slice rfl rfl Tryz.underlying64) ?_
    refine sr 1 ?_
    refine sgo ?_
    refine T_cond rfl ?_ ?_ <;> intro h41
    · try simp only [nrm] at h41
      refine T_region ?_
      refine sr 1 ?_
      refine s1 (yA 11 rfl Tryz.underlying45 sz45) ?_
      refine S_buildSlice 44 44 rfl rfl rfl rfl rfl Tryz.underlying32 inf45 rfl (by decide) (by decide) rfl rfl (by decide) rfl (_) rfl ?_
      intro b44
      obtain ⟨i45, hi45, hz45, hs45, hy45⟩ := info_parts inf45
      refine S_append 45 9 44 rfl rfl rfl rfl rfl rfl rfl rfl Tryz.underlying32 hi45 hz45 hs45 hy45 rfl (by decide) (by decide) rfl ?_ ?_ (q + 1) ((out ++ [f]).flatMap Frm.enc) ?_ ?_ ?_
      · (simp only [maxLen]; omega)
      · omega
      · rfl
      · simp [List.flatMap_append, Frm.enc]; rfl
      intro A45 c45
      refine sr 1 ?_
      refine sgx ?_
      refine sr 1 ?_
      refine s1 (y_len_slice rfl rfl Tryz.underlying64) ?_
      refine sr 1 ?_
      refine sgo ?_
      refine T_block ?_
      refine lK5 (kf := [(9, 9), (15, 15), (48, 67)]) (kl := [(9, 9), (15, 15), (48, 67)]) (fun (j : Nat) (o2 : List Frm) (q2 : Nat) (A2 : Option Addr) (c2 : Nat) => [(48, true, .int .i64 (j : Int)), (9, true, .slice A2 q2 c2)]) (fun (j : Nat) (o2 : List Frm) (q2 : Nat) (A2 : Option Addr) (c2 : Nat) => [(9, .own 45 6 (.slice A2 q2 c2) q2 (o2.flatMap Frm.enc))]) (fun (j : Nat) (o2 : List Frm) (q2 : Nat) (A2 : Option Addr) (c2 : Nat) => j ≤ (plOf f.ad (decide ((i : Int) = 0)) ms.l ts.l).1.length ∧ q2 ≤ i * 1002 + 1 + j ∧ o2.length = q2 ∧ o2 ++ ((plOf f.ad (decide ((i : Int) = 0)) ms.l ts.l).1.drop j).map (mkFrm f (plOf f.ad (decide ((i : Int) = 0)) ms.l ts.l).2) = out ++ resOf (decide ((i : Int) = 0)) f ms.l ts.l) (fun (j : Nat) (o2 : List Frm) (q2 : Nat) (A2 : Option Addr) (c2 : Nat) => (plOf f.ad (decide ((i : Int) = 0)) ms.l ts.l).1.length - j) 0 (out ++ [f]) (q + 1) A45 c45 ?_ ?_ ?_ ?_
      · exact ⟨by omega, by omega, by simp [hp3], by rw [resOf, if_pos (by omega), List.drop_zero, List.eq_nil_of_length_eq_zero (by omega : (plOf f.ad (decide ((i : Int) = 0)) ms.l ts.l).1.length = 0)]; simp⟩
      · exact ⟨rfl, rfl, trivial⟩
      · exact ⟨rfl, trivial⟩
      rintro j o2 q2 A2 c2 ⟨hr1, hr2, hr3, hr4⟩
      refine tx ?_
      refine sr 1 ?_
      refine sgs ?_
      refine T_cond rfl ?_ ?_ <;> intro h49
      · try simp only [nrm] at h49
        obtain ⟨s, hs1, hs2⟩ := at_lt (l := (plOf f.ad (decide ((i : Int) = 0)) ms.l ts.l).1) (i := j) (by omega)
        refine kgs ?_
        refine T_block ?_
        refine tx ?_
        refine s1 (y_indexOwn 36 rfl rfl rfl rfl Tryz.underlying64 sz68 (fun _ => by omega)) ?_
        refine s1 (y_loadO 36 rfl rfl rfl rfl (fun _ => rfl) (fun _ => hs1) Tryz.underlying68 rfl sz68) ?_
        refine S_alloc 15 15 rfl rfl rfl rfl z68 ?_
        intro b15
        refine S_store 15 rfl rfl rfl rfl rfl rfl sz68 rfl rfl ?_
        refine sgr ?_
        refine sr 2 ?_
        refine s1 (yF fa68_0) ?_
        refine s1 (yL 15 Tryz.underlying9) ?_
        refine s1 (yF fa68_1) ?_
        refine s1 (yL 15 Tryz.underlying9) ?_
        refine s1 (yF fa68_2) ?_
        refine s1 (yL 15 Tryz.underlying3) ?_
        refine s1 (yF fa45_4) ?_
        refine s1 (yL 11 Tryz.underlying3) ?_
        refine s1 (yF fa45_5) ?_
        refine s1 (yL 11 Tryz.underlying4) ?_
        refine s1 (y_build (zv := .agg #[.string ⟨#[]⟩, .string ⟨#[]⟩, .string ⟨#[]⟩, .int .i64 0, .int .i64 0, .bool false]) (pl := [(0, 1), (1, 1), (2, 1), (3, 1), (4, 1), (5, 1)]) (out := [_, _, _, _, _, _]) rfl rfl Tryz.underlying45 z45 (by kernel_rfl) rfl) ?_
        refine S_buildSlice 65 65 rfl rfl rfl rfl rfl Tryz.underlying32 inf45 rfl (by decide) (by decide) rfl rfl (by decide) rfl (_) rfl ?_
        intro b65
        obtain ⟨i66, hi66, hz66, hs66, hy66⟩ := info_parts inf45
        refine S_append 66 9 65 rfl rfl rfl rfl rfl rfl rfl rfl Tryz.underlying32 hi66 hz66 hs66 hy66 rfl (by decide) (by decide) rfl ?_ ?_ (q2 + 1) ((o2 ++ [mkFrm f (plOf f.ad (decide ((i : Int) = 0)) ms.l ts.l).2 s]).flatMap Frm.enc) ?_ ?_ ?_
        · (simp only [maxLen]; omega)
        · omega
        · rfl
        · simp [List.flatMap_append, Frm.enc, mkFrm]; rfl
        intro A66 c66
        refine sr 1 ?_
        refine sgr ?_
        refine s1 (y_bin rfl rfl rfl (fun hg => b_add (by omega))) ?_
        refine sr 1 ?_
        refine S_nil (nK5 (kf := [(9, 9), (15, 15), (48, 67)]) (kl := [(9, 9), (15, 15), (48, 67)]) (j + 1) (o2 ++ [mkFrm f (plOf f.ad (decide ((i : Int) = 0)) ms.l ts.l).2 s]) (q2 + 1) A66 c66 ?_ ?_ ?_ ?_)
        · omega
        · exact ⟨by omega, by omega, by simp [hr3], by rw [← hr4, hs2, List.map_cons, List.append_assoc]; rfl⟩
        · exact ⟨rfl, rfl, trivial⟩
        · exact ⟨rfl, trivial⟩
      try simp only [nrm] at h49
      refine egr ?_
      refine s1 (y_bin rfl rfl rfl (fun hg => b_add (by omega))) ?_
      refine sr 1 ?_
      refine S_nil (nK5 (kf := [(9, 13), (15, 15), (25, 68)]) (kl := [(9, 13), (15, 15), (25, 68)]) (i + 1) o2 q2 A2 c2 ?_ ?_ ?_ ?_)
      · omega
      · exact ⟨by omega, by omega, hr3, by rw [hp4, hx2, resAll, ← List.append_assoc, ← hr4, List.drop_eq_nil_of_le (by omega), List.map_nil, List.append_nil, show decide (((i + 1 : Nat) : Int) = 0) = false from decide_eq_false (by omega)]⟩
      · exact ⟨rfl, rfl, trivial⟩
      · exact ⟨rfl, trivial⟩
    try simp only [nrm] at h41
    refine kgx ?_
    refine sr 1 ?_
    refine s1 (y_len_slice rfl rfl Tryz.underlying64) ?_
    refine sr 1 ?_
    refine sgo ?_
    refine T_block ?_
    refine lK5 (kf := [(9, 9), (15, 15), (48, 67)]) (kl := [(9, 9), (15, 15), (48, 67)]) (fun (j : Nat) (o2 : List Frm) (q2 : Nat) (A2 : Option Addr) (c2 : Nat) => [(48, true, .int .i64 (j : Int)), (9, true, .slice A2 q2 c2)]) (fun (j : Nat) (o2 : List Frm) (q2 : Nat) (A2 : Option Addr) (c2 : Nat) => [(9, .own 45 6 (.slice A2 q2 c2) q2 (o2.flatMap Frm.enc))]) (fun (j : Nat) (o2 : List Frm) (q2 : Nat) (A2 : Option Addr) (c2 : Nat) => j ≤ (plOf f.ad (decide ((i : Int) = 0)) ms.l ts.l).1.length ∧ q2 ≤ i * 1002 + 1 + j ∧ o2.length = q2 ∧ o2 ++ ((plOf f.ad (decide ((i : Int) = 0)) ms.l ts.l).1.drop j).map (mkFrm f (plOf f.ad (decide ((i : Int) = 0)) ms.l ts.l).2) = out ++ resOf (decide ((i : Int) = 0)) f ms.l ts.l) (fun (j : Nat) (o2 : List Frm) (q2 : Nat) (A2 : Option Addr) (c2 : Nat) => (plOf f.ad (decide ((i : Int) = 0)) ms.l ts.l).1.length - j) 0 out q A c ?_ ?_ ?_ ?_
    · exact ⟨by omega, by omega, hp3, by rw [resOf, if_neg (by omega), List.drop_zero]⟩
    · exact ⟨rfl, rfl, trivial⟩
    · exact ⟨rfl, trivial⟩
    rintro j o2 q2 A2 c2 ⟨hr1, hr2, hr3, hr4⟩
    refine tx ?_
    refine sr 1 ?_
    refine sgs ?_
    refine T_cond rfl ?_ ?_ <;> intro h49
    · try simp only [nrm] at h49
      obtain ⟨s, hs1, hs2⟩ := at_lt (l := (plOf f.ad (decide ((i : Int) = 0)) ms.l ts.l).1) (i := j) (by omega)
      refine kgs ?_
      refine T_block ?_
      refine tx ?_
      refine s1 (y_indexOwn 36 rfl rfl rfl rfl Tryz.underlying64 sz68 (fun _ => by omega)) ?_
      refine s1 (y_loadO 36 rfl rfl rfl rfl (fun _ => rfl) (fun _ => hs1) Tryz.underlying68 rfl sz68) ?_
      refine S_alloc 15 15 rfl rfl rfl rfl z68 ?_
      intro b15
      refine S_store 15 rfl rfl rfl rfl rfl rfl sz68 rfl rfl ?_
      refine sgr ?_
      refine sr 2 ?_
      refine s1 (yF fa68_0) ?_
      refine s1 (yL 15 Tryz.underlying9) ?_
      refine s1 (yF fa68_1) ?_
      refine s1 (yL 15 Tryz.underlying9) ?_
      refine s1 (yF fa68_2) ?_
      refine s1 (yL 15 Tryz.underlying3) ?_
      refine s1 (yF fa45_4) ?_
      refine s1 (yL 11 Tryz.underlying3) ?_
      refine s1 (yF fa45_5) ?_
      refine s1 (yL 11 Tryz.underlying4) ?_
      refine s1 (y_build (zv := .agg #[.string ⟨#[]⟩, .string ⟨#[]⟩, .string ⟨#[]⟩, .int .i64 0, .int .i64 0, .bool false]) (pl := [(0, 1), (1, 1), (2, 1), (3, 1), (4, 1), (5, 1)]) (out := [_, _, _, _, _, _]) rfl rfl Tryz.underlying45 z45 (by kernel_rfl) rfl) ?_
      refine S_buildSlice 65 65 rfl rfl rfl rfl rfl Tryz.underlying32 inf45 rfl (by decide) (by decide) rfl rfl (by decide) rfl (_) rfl ?_
      intro b65
      obtain ⟨i66, hi66, hz66, hs66, hy66⟩ := info_parts inf45
      refine S_append 66 9 65 rfl rfl rfl rfl rfl rfl rfl rfl Tryz.underlying32 hi66 hz66 hs66 hy66 rfl (by decide) (by decide) rfl ?_ ?_ (q2 + 1) ((o2 ++ [mkFrm f (plOf f.ad (decide ((i : Int) = 0)) ms.l ts.l).2 s]).flatMap Frm.enc) ?_ ?_ ?_
      · (simp only [maxLen]; omega)
      · omega
      · rfl
      · simp [List.flatMap_append, Frm.enc, mkFrm]; rfl
      intro A66 c66
      refine sr 1 ?_
      refine sgr ?_
      refine s1 (y_bin rfl rfl rfl (fun hg => b_add (by omega))) ?_
      refine sr 1 ?_
      refine S_nil (nK5 (kf := [(9, 9), (15, 15), (48, 67)]) (kl := [(9, 9), (15, 15), (48, 67)]) (j + 1) (o2 ++ [mkFrm f (plOf f.ad (decide ((i : Int) = 0)) ms.l ts.l).2 s]) (q2 + 1) A66 c66 ?_ ?_ ?_ ?_)
      · omega
      · exact ⟨by omega, by omega, by simp [hr3], by rw [← hr4, hs2, List.map_cons, List.append_assoc]; rfl⟩
      · exact ⟨rfl, rfl, trivial⟩
      · exact ⟨rfl, trivial⟩
    try simp only [nrm] at h49
    refine egr ?_
    refine s1 (y_bin rfl rfl rfl (fun hg => b_add (by omega))) ?_
    refine sr 1 ?_
    refine S_nil (nK5 (kf := [(9, 13), (15, 15), (25, 68)]) (kl := [(9, 13), (15, 15), (25, 68)]) (i + 1) o2 q2 A2 c2 ?_ ?_ ?_ ?_)
    · omega
    · exact ⟨by omega, by omega, hr3, by rw [hp4, hx2, resAll, ← List.append_assoc, ← hr4, List.drop_eq_nil_of_le (by omega), List.map_nil, List.append_nil, show decide (((i + 1 : Nat) : Int) = 0) = false from decide_eq_false (by omega)]⟩
    · exact ⟨rfl, rfl, trivial⟩
    · exact ⟨rfl, trivial⟩
  try simp only [nrm] at h26
  refine egs ?_
  refine tx ?_
  refine sr 1 ?_
  refine s1 (y_len_slice rfl rfl Tryz.underlying32) ?_
  refine sr 1 ?_
  refine sgo ?_
  refine T_cond rfl ?_ ?_ <;> intro h71
  · try simp only [nrm] at h71
    refine tx ?_
    refine S_nilSlice 6 (e := 45) (size := 6) ?_
    refine sr 2 ?_
    refine sgo ?_
    refine tr2 hRb fun w hM => ?_
    have e2 : resAll ms.l ts.l true fs.l = out := by rw [hp4, hft.end (by omega)]; simp [resAll]
    have e1 : resNo fs ms ts = 4 := fst_b h21 (if_pos (by rw [e2]; omega))
    have e : resOut fs ms ts = [] := if_neg (by rw [e1]; decide)
    rw [e, e1]
    exact ⟨none, 0, rfl, hM.sat 6 _ rfl, hM.below⟩
  try simp only [nrm] at h71
  refine kgx ?_
  refine sr 3 ?_
  refine sgo ?_
  refine tr2 hRb fun w hM => ?_
  have e2 : resAll ms.l ts.l true fs.l = out := by rw [hp4, hft.end (by omega)]; simp [resAll]
  have e1 : resNo fs ms ts = 0 := fst_b h21 (if_neg (by rw [e2]; omega))
  have e : resOut fs ms ts = out := by rw [resOut, if_pos e1, e2]
  rw [e, e1, hp3]
  exact ⟨A, c, rfl, hM.sat 9 _ rfl, hM.below⟩
end Go.Proofs.YtgbldojgbpgjbaaGreatDoor.Sy
end
section
namespace Go.Proofs.YtgbldojgbpgjbaaGreatDoor.Sy
set_option linter.unusedSimpArgs false
set_option linter.unusedVariables false
set_option maxRecDepth 20000
open Go.RowKit Go.Eng
def Wd (s : List UInt8) : Prop := s.length ≤ 200 ∧ wordOk marks s = true
theorem wd_nil : Wd [] := ⟨by simp, rfl⟩
theorem words_zero {m f fi : List UInt8} (h : wordsNo m f fi = 0) : Wd m ∧ Wd f ∧ Wd fi ∧ f ≠ [] := by
  unfold wordsNo at h
  split at h
  · cases h
  rename_i h1
  split at h
  · cases h
  rename_i h2
  split at h
  · cases h
  rename_i h3
  simp only [Bool.not_eq_true, Bool.or_eq_false_iff, decide_eq_false_iff_not, Bool.not_eq_false'] at h1 h2
  exact ⟨⟨by omega, h2.1.1⟩, ⟨by omega, h2.1.2⟩, ⟨by omega, h2.2⟩, h3⟩
theorem words_back {m f fi : List UInt8} (h1 : Wd m) (h2 : Wd f) (h3 : Wd fi) (h4 : f ≠ []) : wordsNo m f fi = 0 := by
  have a1 := h1.1
  have a2 := h2.1
  have a3 := h3.1
  unfold wordsNo
  rw [if_neg, if_neg, if_neg h4]
  · rw [h1.2, h2.2, h3.2]; decide
  · simp only [Bool.or_eq_true, decide_eq_true_eq]; omega
theorem frm_zero {x : Frm} (h : frmNo x = 0) : Wd x.m ∧ Wd x.f ∧ Wd x.fi ∧ x.f ≠ [] ∧ 0 ≤ x.ln ∧ x.ln ≤ 9999999 ∧ -1 ≤ x.ad ∧ x.ad ≤ 281474976710655 ∧ (x.ln ≠ 0 → x.fi ≠ []) := by
  unfold frmNo at h
  split at h
  · rename_i h1; exact absurd h h1
  rename_i h1
  have hw := words_zero (Decidable.of_not_not h1)
  split at h
  · cases h
  rename_i h2
  split at h
  · cases h
  rename_i h3
  simp only [Bool.or_eq_true, decide_eq_true_eq] at h2
  exact ⟨hw.1, hw.2.1, hw.2.2.1, hw.2.2.2, by omega, by omega, by omega, by omega, fun a b => h3 ⟨a, b⟩⟩
theorem frm_back {x : Frm} (h1 : Wd x.m) (h2 : Wd x.f) (h3 : Wd x.fi) (h4 : x.f ≠ []) (h5 : 0 ≤ x.ln) (h6 : x.ln ≤ 9999999) (h7 : -1 ≤ x.ad) (h8 : x.ad ≤ 281474976710655) (h9 : x.ln ≠ 0 → x.fi ≠ []) : frmNo x = 0 := by
  unfold frmNo
  rw [words_back h1 h2 h3 h4, if_neg (by simp), if_neg, if_neg (fun h => h9 h.1 h.2)]
  simp only [Bool.or_eq_true, decide_eq_true_eq]; omega
theorem frms_zero : ∀ {l : List Frm}, frmsNo l = 0 → ∀ f ∈ l, frmNo f = 0
  | [], _ => fun f hf => by cases hf
  | a :: r, h => by
    unfold frmsNo at h
    split at h
    · rename_i h1; exact absurd h h1
    rename_i h1
    intro f hf
    rcases List.mem_cons.1 hf with rfl | hf
    · exact Decidable.of_not_not h1
    · exact frms_zero h f hf
theorem files_zero : ∀ {l seen : List (List UInt8)}, filesNo seen l = 0 → ∀ s ∈ l, s ≠ [] ∧ Wd s
  | [], _, _ => fun s hs => by cases hs
  | a :: r, seen, h => by
    unfold filesNo at h
    split at h
    · cases h
    rename_i h1
    split at h
    · rename_i h2; exact absurd h h2
    rename_i h2
    split at h
    · cases h
    intro s hs
    rcases List.mem_cons.1 hs with rfl | hs
    · exact ⟨h1, (words_zero (Decidable.of_not_not h2)).2.2.1⟩
    · exact files_zero h s hs
theorem name_zero {s : List UInt8} (h : nameNo s = 0) : Wd s ∧ s ≠ [] := by
  unfold nameNo at h
  split at h
  · rename_i h1; exact absurd h h1
  rename_i h1
  have := words_zero (Decidable.of_not_not h1)
  exact ⟨this.2.1, this.2.2.2⟩
theorem funcs_zero {size : Int} : ∀ {l : List SFunc} {last : Int}, funcsNo size l last = 0 → ∀ f ∈ l, Wd f.name ∧ f.name ≠ []
  | [], _, _ => fun s hs => by cases hs
  | a :: r, last, h => by
    unfold funcsNo at h
    split at h
    · rename_i h1; exact absurd h h1
    rename_i h1
    split at h
    · cases h
    split at h
    · cases h
    intro s hs
    rcases List.mem_cons.1 hs with rfl | hs
    · exact name_zero (Decidable.of_not_not h1)
    · exact funcs_zero h s hs
theorem modw_zero : ∀ {l : List SMod} {last : Int}, modsNo l last = 0 → ∀ m ∈ l, Wd m.name
  | [], _, _ => fun s hs => by cases hs
  | a :: r, last, h => by
    unfold modsNo at h
    split at h
    · cases h
    split at h
    · rename_i h1; exact absurd h h1
    rename_i h1
    split at h
    · cases h
    split at h
    · cases h
    split at h
    · cases h
    split at h
    · cases h
    intro s hs
    rcases List.mem_cons.1 hs with rfl | hs
    · exact (words_zero (Decidable.of_not_not h1)).1
    · exact modw_zero h s hs
theorem tab_files {t : Tab} (h : tabNo t = 0) : (∀ s ∈ t.fi.l, s ≠ [] ∧ Wd s) ∧ (∀ f ∈ t.fu.l, Wd f.name ∧ f.name ≠ []) := by
  unfold tabNo at h
  split at h
  · cases h
  split at h
  · cases h
  obtain ⟨a, h⟩ := fst_zero h
  obtain ⟨b, h⟩ := fst_zero h
  exact ⟨files_zero (le_of_ite a).2, funcs_zero (le_of_ite b).2⟩
/-- a right file and line -/
def LnOk (file : List UInt8) (line : Int) : Prop := Wd file ∧ 0 ≤ line ∧ line ≤ 9999999 ∧ (line ≠ 0 → file ≠ [])
def PlOk (p : SPlace) : Prop := Wd p.fn ∧ p.fn ≠ [] ∧ LnOk p.fi p.ln
theorem go_right {x : Int} {files : List (List UInt8)} (hf : ∀ s ∈ files, s ≠ [] ∧ Wd s) : ∀ (l : List SCall) (file : List UInt8) (line : Int) (out : List SPlace),
    (∀ c ∈ l, (Wd c.name ∧ c.name ≠ []) ∧ 0 ≤ c.fi ∧ c.fi < files.length ∧ 0 ≤ c.ln ∧ c.ln ≤ 9999999) → LnOk file line → (∀ p ∈ out, PlOk p) →
    (∀ p ∈ (goPlaces x files l file line out).1, PlOk p) ∧ LnOk (goPlaces x files l file line out).2.1 (goPlaces x files l file line out).2.2
  | [], file, line, out, _, h1, h2 => ⟨h2, h1⟩
  | c :: r, file, line, out, h0, h1, h2 => by
    have hc := h0 c (by simp)
    have hr := fun c hc => h0 c (List.mem_cons_of_mem _ hc)
    unfold goPlaces
    split
    · have hlt : c.fi.toNat < files.length := by omega
      have hg := hf _ (mem_at (get_file hlt))
      refine go_right hf r _ _ _ hr ⟨hg.2, hc.2.2.2.1, hc.2.2.2.2, fun _ => hg.1⟩ fun p hp => ?_
      rcases List.mem_append.1 hp with hp | hp
      · exact h2 p hp
      · rw [List.mem_singleton.1 hp]; exact ⟨hc.1.1, hc.1.2, h1⟩
    · exact go_right hf r _ _ _ hr h1 h2
theorem atRow_in {x : Int} : ∀ (l : List SRow) (o : Option SRow) (r : SRow), atRow x l o = some r → r ∈ l ∨ o = some r
  | [], o, r, h => .inr h
  | a :: rest, o, r, h => by
    unfold atRow at h
    split at h
    · exact .inr h
    · rcases atRow_in rest (some a) r h with h | h
      · exact .inl (List.mem_cons_of_mem _ h)
      · injection h with h; exact .inl (by simp [h])
theorem line_right {size : Int} {files : List (List UInt8)} {rows : List SRow} {x last : Int} (hf : ∀ s ∈ files, s ≠ [] ∧ Wd s) (h : rowsNo size files.length rows last = 0) :
    LnOk (lineFile files (atRow x rows none)) (lineLine (atRow x rows none)) := by
  cases hr : atRow x rows none with
  | none => exact ⟨wd_nil, by simp [lineLine], by simp [lineLine], fun h => absurd rfl h⟩
  | some r =>
    have hm : r ∈ rows := by
      rcases atRow_in rows none r hr with h | h
      · exact h
      · cases h
    obtain ⟨i, _, hi⟩ := List.getElem_of_mem hm
    have hi' : rows[i]? = some r := by rw [List.getElem?_eq_some_iff]; exact ⟨_, hi⟩
    obtain ⟨hb, he, _⟩ := (rows_right rows last h).1 i r hi'
    have hfi := fi_of_row hb
    have hln : 0 ≤ r.ln ∧ r.ln ≤ 9999999 := by
      simp only [rowBad, outB, Bool.or_eq_false_iff, decide_eq_false_iff_not] at hb; omega
    show LnOk (if r.fi < 0 then [] else files.getD r.fi.toNat []) (if r.fi < 0 then 0 else r.ln)
    split
    · exact ⟨wd_nil, by simp, by simp, fun h => absurd rfl h⟩
    · rename_i hn
      have hlt : r.fi.toNat < files.length := by omega
      have hg := hf _ (mem_at (get_file hlt))
      exact ⟨hg.2, hln.1, hln.2, fun _ => hg.1⟩
theorem at_right {w : World} {t : Tab} (hok : t.Ok w) (h0 : tabNo t = 0) (x : Int) : ∀ p ∈ atOut t x, PlOk p := by
  obtain ⟨hfs, hfn⟩ := tab_files h0
  have hq : (t.fi.q : Int) = (t.fi.l.length : Int) := by rw [hok.fi.t.len]
  have hro := tab_rows h0
  have hca := calls_right _ _ _ (tab_calls h0)
  rw [hq] at hro hca
  unfold atOut
  dsimp only
  split
  · intro p hp; cases hp
  rename_i hn
  obtain ⟨n, f, h1, h2, _⟩ := findI_at t.fu.l 0 (by omega) (by omega : 0 ≤ findI (SFunc.has x) t.fu.l 0)
  have e : (findI (SFunc.has x) t.fu.l 0).toNat = n := by omega
  have e2 : t.fu.l.getD n ⟨[], 0, 0⟩ = f := by rw [List.getD, h2]; rfl
  have hcs : ∀ c ∈ t.ca.l.reverse, (Wd c.name ∧ c.name ≠ []) ∧ 0 ≤ c.fi ∧ c.fi < t.fi.l.length ∧ 0 ≤ c.ln ∧ c.ln ≤ 9999999 := fun c hc => by
    obtain ⟨i, _, hi⟩ := List.getElem_of_mem (List.mem_reverse.1 hc)
    have hi' : t.ca.l[i]? = some c := by rw [List.getElem?_eq_some_iff]; exact ⟨_, hi⟩
    obtain ⟨a, b, _⟩ := hca i c hi'
    have hfi := fi_of_call b
    have hln : 1 ≤ c.ln ∧ c.ln ≤ 9999999 := by
      simp only [callBad, outB, Bool.or_eq_false_iff, decide_eq_false_iff_not] at b; omega
    exact ⟨name_zero a, by omega, by omega, by omega, by omega⟩
  have hg := go_right (x := x) hfs t.ca.l.reverse _ _ [] hcs (line_right (x := x) hfs hro) (fun p hp => by cases hp)
  intro p hp
  rcases List.mem_append.1 hp with hp | hp
  · exact hg.1 p hp
  · rw [List.mem_singleton.1 hp, e, e2]
    have := hfn f (mem_at h2)
    exact ⟨this.1, this.2, hg.2⟩
theorem pl_right {w : World} {ts : List Tab} {ms : List SMod} (hk : ∀ t ∈ ts, t.Ok w) (h0 : ∀ t ∈ ts, tabNo t = 0) (hm : ∀ m ∈ ms, Wd m.name) (ad : Int) (first : Bool) : (∀ p ∈ (plOf ad first ms ts).1, PlOk p) ∧ Wd (plOf ad first ms ts).2 := by
  unfold plOf
  split
  · exact ⟨fun p hp => (by cases hp), wd_nil⟩
  rename_i hn1
  unfold pl2
  split
  · exact ⟨fun p hp => (by cases hp), wd_nil⟩
  rename_i hn2
  obtain ⟨n, m, h1, h2, _⟩ := findI_at ms 0 (by omega) (by omega : 0 ≤ findI (SMod.has ad) ms 0)
  have e : (findI (SMod.has ad) ms 0).toNat = n := by omega
  have e2 : ms.getD n m00 = m := by rw [List.getD, h2]; rfl
  rw [e, e2] at hn2 ⊢
  obtain ⟨k, t, h3, h4, _⟩ := findI_at ts 0 (by omega) (by omega : 0 ≤ findI (Tab.hasId m.id) ts 0)
  have e3 : (findI (Tab.hasId m.id) ts 0).toNat = k := by omega
  have e4 : ts.getD k t00 = t := by rw [List.getD, h4]; rfl
  rw [e3, e4]
  unfold pl3
  split
  · exact ⟨fun p hp => (by cases hp), wd_nil⟩
  · exact ⟨at_right (hk t (mem_at h4)) (h0 t (mem_at h4)) _, hm m (mem_at h2)⟩
theorem resOf_right {w : World} {ts : List Tab} {ms : List SMod} (hk : ∀ t ∈ ts, t.Ok w) (h0 : ∀ t ∈ ts, tabNo t = 0) (hm : ∀ m ∈ ms, Wd m.name) (first : Bool) {f : Frm} (hf : frmNo f = 0) : ∀ y ∈ resOf first f ms ts, frmNo y = 0 := by
  unfold resOf
  split
  · intro y hy; rw [List.mem_singleton.1 hy]; exact hf
  · intro y hy
    obtain ⟨p, hp, rfl⟩ := List.mem_map.1 hy
    have hr := pl_right hk h0 hm f.ad first
    have hpl := hr.1 p hp
    have hz := frm_zero hf
    exact frm_back hr.2 hpl.1 hpl.2.2.1 hpl.2.1 hpl.2.2.2.1 hpl.2.2.2.2.1 hz.2.2.2.2.2.2.1 hz.2.2.2.2.2.2.2.1 hpl.2.2.2.2.2
theorem resAll_right {w : World} {ts : List Tab} {ms : List SMod} (hk : ∀ t ∈ ts, t.Ok w) (h0 : ∀ t ∈ ts, tabNo t = 0) (hm : ∀ m ∈ ms, Wd m.name) : ∀ (first : Bool) (l : List Frm), (∀ f ∈ l, frmNo f = 0) → ∀ y ∈ resAll ms ts first l, frmNo y = 0
  | _, [], _ => fun y hy => by cases hy
  | first, f :: r, h => fun y hy => by
    rcases List.mem_append.1 hy with hy | hy
    · exact resOf_right hk h0 hm first (h f (by simp)) y hy
    · exact resAll_right hk h0 hm false r (fun f hf => h f (List.mem_cons_of_mem _ hf)) y hy
/-- with no fault, what Resolve returns are right frames, at most 200 -/
theorem res_right {w : World} {fs : Sl Frm} {ms : Sl SMod} {ts : Sl Tab} (hts : TabsOk w ts) (h : resNo fs ms ts = 0) : (∀ y ∈ resOut fs ms ts, frmNo y = 0) ∧ (resOut fs ms ts).length ≤ 200 := by
  unfold resOut
  rw [if_pos h]
  obtain ⟨ha, hb⟩ := fst_zero h
  obtain ⟨_, h1, h2, h3⟩ := allNo_zero ha
  have h1' := (le_of_ite h1).2
  refine ⟨resAll_right hts.n h3 (modw_zero h2) true _ (frms_zero h1'), ?_⟩
  have hq : ¬ (200 : Int) < ((resAll ms.l ts.l true fs.l).length : Int) := by
    intro hc; rw [if_pos hc] at hb; cases hb
  omega
end Go.Proofs.YtgbldojgbpgjbaaGreatDoor.Sy
end
section
namespace Go.Proofs.YtgbldojgbpgjbaaGreatDoor
set_option linter.unusedSimpArgs false
set_option linter.unusedVariables false
set_option maxRecDepth 20000
open Go.RowKit Go.Eng
def jnS (sep : List UInt8) : List (List UInt8) → List UInt8
  | [] => []
  | [a] => a
  | a :: b :: r => a ++ sep ++ jnS sep (b :: r)
theorem join_jnS (sep : List UInt8) : ∀ l : List (List UInt8), Lib.join l sep = jnS sep l
  | [] => rfl
  | [a] => Lib.join_one a sep
  | a :: b :: r => by
    have h := join_jnS sep (b :: r)
    rw [Lib.join_cons] at h
    rw [Lib.join_cons, jnS, ← h]
    simp [Lib.joinTail]
theorem JoinS_any (sep : List UInt8) (A : Option Addr) (q c : Nat) (l : List (List UInt8)) (w : World) (hl : SlT strE 1 w A q l) (hcap : q ≤ c) (hlen : (jnS sep l).length ≤ 140737488355328) (h47 : q ≤ 1000000) :
    Calls Tryz.prog 32 #[.slice A q c, str sep] w fun e w' => e = .returned (str (jnS sep l)) ∧ Below w.heap.size w w' := by
  have hll := hl.len
  rcases Nat.eq_zero_or_pos q with h0 | hq
  · subst h0
    have hn : l = [] := List.eq_nil_of_length_eq_zero hll
    subst hn
    exact (Any.strings_Join_none Tryz.lays156 Tryz.Builder_Extra_156 A c ⟨sep.toArray⟩ w).mono fun e w' ⟨he, hw⟩ => ⟨he, hw ▸ Below.refl _ _⟩
  obtain ⟨ad, rfl, hlt, hc⟩ := hl.rd.2 hq
  obtain ⟨bk, o, sp⟩ := ad
  have hx : ∀ (j : Nat) (s : List UInt8), l[j]? = some s → w.cell? ((⟨bk, o, sp⟩ : Addr).add j) = some (str s) := fun j s hj => hc j (str s) (by rw [strs_flat, List.getElem?_map, hj]; rfl)
  have hsp : sp = none := by
    obtain ⟨s, hs⟩ : ∃ s, l[0]? = some s := ⟨_, List.getElem?_eq_getElem (by omega)⟩
    have h := hx 0 s hs
    cases sp with
    | none => rfl
    | some k =>
      rw [show (⟨bk, o, some k⟩ : Addr).add 0 = ⟨bk, o, some k⟩ from rfl] at h
      unfold World.cell? at h
      split at h
      · simp at h
      · cases h
  subst hsp
  have hm : (l.map fun s => (⟨s.toArray⟩ : ByteArray)).map (·.data.toList) = l := by rw [List.map_map]; exact (List.map_congr_left fun s _ => rfl).trans (List.map_id l)
  have h := Any.strings_Join Tryz.lays156 Tryz.Builder_Extra_156 bk o c (l.map fun s => ⟨s.toArray⟩) ⟨sep.toArray⟩ w (fun j x hj => by
      rw [List.getElem?_map] at hj
      obtain ⟨s, hs, rfl⟩ := Option.map_eq_some_iff.1 hj
      have := hx j s hs
      rwa [show (⟨bk, o, none⟩ : Addr).add j = ⟨bk, o + j, none⟩ from by unfold Addr.add; split <;> simp_all] at this) hlt (by rw [List.length_map]; omega) (by rw [List.length_map]; omega) (by rw [hm]; show (Lib.join l sep).length ≤ _; rw [join_jnS]; exact hlen)
  rw [hm, List.length_map, hll, join_jnS] at h
  exact h
/-! ### The head of an event -/
abbrev kEv : List UInt8 := [101, 118, 101, 110, 116]
abbrev kAt : List UInt8 := [97, 116]
abbrev kLv : List UInt8 := [108, 101, 118, 101, 108]
abbrev kWt : List UInt8 := [119, 101, 105, 103, 104, 116]
abbrev kRel : List UInt8 := [114, 101, 108, 101, 97, 115, 101]
abbrev kUs : List UInt8 := [117, 115, 101, 114]
abbrev kTg : List UInt8 := [116, 97, 103]
abbrev kCr : List UInt8 := [99, 114, 117, 109, 98]
abbrev kFa : List UInt8 := [102, 97, 117, 108, 116, 115]
def lnT (ws : List (List UInt8)) : List UInt8 := jnS [32] ws ++ [10]
def lvW (n : Int) : List UInt8 := levels.getD (n - 1).toNat []
def tagT (t : STag) : List UInt8 := lnT [kTg, t.n, t.v]
def crumbT (c : SCrumb) : List UInt8 := lnT [kCr, Lib.itoa c.at_, c.k, c.t]
def hd4T (e : Evt) : List UInt8 := lnT [kEv, e.id] ++ lnT [kAt, Lib.itoa e.at_] ++ lnT [kLv, lvW e.lv] ++ lnT [kWt, Lib.itoa e.wt]
def hd5T (e : Evt) : List UInt8 := hd4T e ++ (if e.rel = [] then [] else lnT [kRel, e.rel])
def hd6T (e : Evt) : List UInt8 := hd5T e ++ (if e.us = [] then [] else lnT [kUs, e.us])
def hdT (e : Evt) : List UInt8 := hd6T e ++ e.ta.l.flatMap tagT ++ e.cr.l.flatMap crumbT ++ lnT [kFa]
def bangF (x : Frm) : Bool := decide (0 ≤ Lib.indexByte x.f 33) || decide (0 ≤ Lib.indexByte x.m 33)
def bangL (l : List Flt) : Bool := l.any fun f => f.fr.l.any bangF
def evT (e : Evt) : List UInt8 := hdT e ++ writeT none (e.fa.l.map pfl)
def textNo (e : Evt) : Int := fst (evNo e) (if bangL e.fa.l = true then 9 else if (1000000 : Int) < (evT e).length then 4 else 0)
def textS (e : Evt) : List UInt8 := if textNo e = 0 then evT e else []
end Go.Proofs.YtgbldojgbpgjbaaGreatDoor
end
section
namespace Go.Proofs.YtgbldojgbpgjbaaGreatDoor
set_option linter.unusedSimpArgs false
set_option linter.unusedVariables false
set_option maxRecDepth 20000
open Go.RowKit Go.Eng
structure EvN (e : Evt) : Prop where
  id : e.id.length ≤ 1000
  at_ : 0 ≤ e.at_ ∧ e.at_ ≤ 3155759999
  lv : 1 ≤ e.lv ∧ e.lv ≤ 5
  taq : e.ta.l.length ≤ 40
  ta : ∀ t ∈ e.ta.l, t.n.length ≤ 1000 ∧ t.v.length ≤ 1000
  crq : e.cr.l.length ≤ 50
  cr : ∀ c ∈ e.cr.l, (0 ≤ c.at_ ∧ c.at_ ≤ 3155759999) ∧ c.k.length ≤ 1000 ∧ c.t.length ≤ 5000
  rel : e.rel.length ≤ 1000
  us : e.us.length ≤ 1000
  wt : 1 ≤ e.wt ∧ e.wt ≤ 1000000
  fq : 0 < e.fa.l.length ∧ e.fa.l.length ≤ 10
  fa : ∀ f ∈ e.fa.l, FlN f
theorem fst_zero {a b : Int} (h : fst a b = 0) : a = 0 ∧ b = 0 := by
  unfold fst at h
  split at h
  · contradiction
  · exact ⟨by omega, h⟩
theorem nameOk_le {s : List UInt8} (h : nameOk s = true) : s.length ≤ 40 := by
  simp only [nameOk, Bool.and_eq_true, decide_eq_true_eq] at h; omega
theorem valNo_le {s : List UInt8} (h : valNo s = 0) : s.length ≤ 200 := by
  unfold valNo at h
  split at h
  · cases h
  · omega
theorem sayNo_le {s : List UInt8} (h : sayNo s = 0) : s.length ≤ 2000 := by
  unfold sayNo at h
  split at h
  · cases h
  · omega
theorem tagsNo_right : ∀ {l : List STag} {p : Option (List UInt8)}, tagsNo p l = 0 → ∀ t ∈ l, t.n.length ≤ 1000 ∧ t.v.length ≤ 1000
  | [], _, _, t, ht => (by cases ht)
  | a :: r, p, h, t, ht => by
    rw [tagsNo] at h
    split at h
    · cases h
    · rename_i h1
      split at h
      · cases h
      · split at h
        · contradiction
        · rename_i h3
          rcases List.mem_cons.1 ht with rfl | h4
          · have e1 := nameOk_le (s := t.n) (by simpa using h1)
            have e2 := valNo_le (s := t.v) (by omega)
            exact ⟨by omega, by omega⟩
          · exact tagsNo_right h t h4
theorem crumbsNo_right : ∀ {l : List SCrumb} {p : Option Int}, crumbsNo p l = 0 → ∀ c ∈ l, (0 ≤ c.at_ ∧ c.at_ ≤ 3155759999) ∧ c.k.length ≤ 1000 ∧ c.t.length ≤ 5000
  | [], _, _, t, ht => (by cases ht)
  | a :: r, p, h, t, ht => by
    rw [crumbsNo] at h
    split at h
    · cases h
    · rename_i h1
      split at h
      · cases h
      · split at h
        · cases h
        · rename_i h2
          split at h
          · contradiction
          · rename_i h3
            rcases List.mem_cons.1 ht with rfl | h4
            · simp only [Bool.or_eq_true, decide_eq_true_eq, not_or] at h1
              have e1 := nameOk_le (s := t.k) (by simpa using h2)
              have e2 := sayNo_le (s := t.t) (by omega)
              exact ⟨⟨by omega, by omega⟩, by omega, by omega⟩
            · exact crumbsNo_right h t h4
theorem evNo_right {w : World} {e : Evt} (he : e.Ok w) (h : evNo e = 0) : EvN e := by
  obtain ⟨h1, h⟩ := fst_zero h
  obtain ⟨h2, h⟩ := fst_zero h
  obtain ⟨h3, h⟩ := fst_zero h
  obtain ⟨h4, h⟩ := fst_zero h
  have ht := he.ta.ok.t.len
  have hc := he.cr.ok.t.len
  have hf := he.fa.ok.t.len
  obtain ⟨f1, f2, f3⟩ := faultsNo_right he.fa h2
  split at h3
  · cases h3
  split at h4
  · cases h4
  split at h
  · cases h
  rename_i h5
  obtain ⟨h6, h7⟩ := fst_zero h
  have hrel : e.rel.length ≤ 40 := by
    by_cases hr : e.rel = []
    · rw [hr]; exact Nat.zero_le _
    · exact nameOk_le (by simpa [hr] using h5)
  have hus := valNo_le h6
  have hwt : 1 ≤ e.wt ∧ e.wt ≤ 1000000 := by
    split at h7
    · cases h7
    · rename_i h8
      simp only [Bool.or_eq_true, decide_eq_true_eq, not_or] at h8
      omega
  unfold headNo at h1
  split at h1
  · cases h1
  rename_i h8
  split at h1
  · cases h1
  rename_i h9
  simp only [Bool.or_eq_true, decide_eq_true_eq, not_or] at h9
  have hid : e.id.length = 16 := by
    have h10 : idOk e.id = true := by simpa using h8
    simp only [idOk, Bool.and_eq_true, decide_eq_true_eq] at h10
    omega
  exact ⟨by omega, by omega, by omega, by omega, tagsNo_right h3, by omega, crumbsNo_right h4, by omega, by omega, hwt, by omega, f3⟩
theorem it21 {n : Int} (h : 0 ≤ n ∧ n ≤ 3155759999) : (Lib.itoa n).length ≤ 21 := Lib.itoa_length_le n (by omega) (by omega)
theorem ln2_le (a b : List UInt8) : (lnT [a, b]).length = a.length + b.length + 2 := by simp [lnT, jnS]; omega
theorem ln3_le (a b c : List UInt8) : (lnT [a, b, c]).length = a.length + b.length + c.length + 3 := by simp [lnT, jnS]; omega
theorem ln4_le (a b c d : List UInt8) : (lnT [a, b, c, d]).length = a.length + b.length + c.length + d.length + 4 := by simp [lnT, jnS]; omega
theorem lvW_le (n : Int) : (lvW n).length ≤ 7 := by
  unfold lvW
  match (n - 1).toNat with
  | 0 => decide
  | 1 => decide
  | 2 => decide
  | 3 => decide
  | 4 => decide
  | k + 5 => show 0 ≤ 7; decide
theorem tagT_le {t : STag} (h : t.n.length ≤ 1000 ∧ t.v.length ≤ 1000) : (tagT t).length ≤ 5000 := by rw [tagT, ln3_le]; simp only [List.length_cons, List.length_nil]; omega
theorem crumbT_le {c : SCrumb} (h : (0 ≤ c.at_ ∧ c.at_ ≤ 3155759999) ∧ c.k.length ≤ 1000 ∧ c.t.length ≤ 5000) : (crumbT c).length ≤ 10000 := by
  have := it21 h.1
  rw [crumbT, ln4_le]; simp only [List.length_cons, List.length_nil]; omega
theorem hd4T_le {e : Evt} (h : EvN e) : (hd4T e).length ≤ 2000 := by
  have h1 := it21 h.at_
  have h2 := it21 (n := e.wt) (by have := h.wt; omega)
  have h3 := lvW_le e.lv
  have h4 := h.id
  simp only [hd4T, List.length_append, ln2_le, List.length_cons, List.length_nil]; omega
theorem hd5T_le {e : Evt} (h : EvN e) : (hd5T e).length ≤ 4000 := by
  have h1 := hd4T_le h
  have h2 := h.rel
  unfold hd5T
  split <;> simp only [List.length_append, ln2_le, List.length_cons, List.length_nil] <;> omega
theorem hd6T_le {e : Evt} (h : EvN e) : (hd6T e).length ≤ 6000 := by
  have h1 := hd5T_le h
  have h2 := h.us
  unfold hd6T
  split <;> simp only [List.length_append, ln2_le, List.length_cons, List.length_nil] <;> omega
theorem flat_le {α : Type} {f : α → List UInt8} {n : Nat} : ∀ {l : List α}, (∀ x ∈ l, (f x).length ≤ n) → (l.flatMap f).length ≤ l.length * n
  | [], _ => Nat.zero_le _
  | a :: r, h => by
    have h1 := h a (List.mem_cons_self ..)
    have h2 := flat_le fun x hx => h x (List.mem_cons_of_mem _ hx)
    rw [List.flatMap_cons, List.length_append, List.length_cons, Nat.add_mul]; omega
theorem hdT_le {e : Evt} (h : EvN e) : (hdT e).length ≤ 1000000 := by
  have h1 := hd6T_le h
  have h2 := flat_le (f := tagT) fun t ht => tagT_le (h.ta t ht)
  have h3 := flat_le (f := crumbT) fun t ht => crumbT_le (h.cr t ht)
  have h4 := h.taq
  have h5 := h.crq
  unfold hdT
  simp only [List.length_append]
  have h6 : (lnT [kFa]).length = 7 := rfl
  omega
theorem writeT_le {n : Nat} : ∀ {l : List Flt} {p : Option (List Frm)}, (∀ f ∈ l, FlN f) → (writeT p (l.map pfl)).length ≤ l.length * 900000000
  | [], _, _ => Nat.zero_le _
  | f :: r, p, h => by
    have h1 := oneT_le (p := p) (h f (List.mem_cons_self ..))
    have h2 := writeT_le (n := n) (l := r) (p := some f.fr.l) fun x hx => h x (List.mem_cons_of_mem _ hx)
    have e : writeT p ((f :: r).map pfl) = oneT p (pfl f) ++ writeT (some f.fr.l) (r.map pfl) := rfl
    rw [e, List.length_append, List.length_cons]; omega
end Go.Proofs.YtgbldojgbpgjbaaGreatDoor
end
section
namespace Go.Proofs.YtgbldojgbpgjbaaGreatDoor
set_option linter.unusedSimpArgs false
set_option linter.unusedVariables false
set_option maxRecDepth 20000
open Go.RowKit Go.Eng
structure BdR (b : Nat) where
  ad : Value
  A : Option Addr
  c : Nat
  ok : ad = .pointer none ∨ ad = selfP b
theorem fr_cut {p : Option (List Frm)} {f : Sl Frm} {N : Nat} (h : f.l.length = f.q) (hN : N = sh2 (shW p f.l)) : ((f.l.drop 0).take (f.q - N - 0)).flatMap frameT = frmsT p f.l := by
  subst hN
  rw [frmsT, h]; rfl
theorem fltOk_t {w : World} {f : Flt} (h : FltOk w f) : SlT Frm.enc 6 w f.fr.A f.fr.q f.fr.l := h.fr.ok.t
set_option maxHeartbeats 1600000 in
theorem writeInner_any {w0 : World} {K : HL} (hK : FromK K) (b : Nat) (ad : Value) (A : Option Addr) (c : Nat) (l : Sl Flt) (had : ad = .pointer none ∨ ad = selfP b) (hl : FltsOk w0 l) (hr : ∀ f ∈ l.l, FlN f) (h0 : 0 < l.q) (h10 : l.q ≤ 10) (w : World) (hM0 : Mem w0 ([(0, bB b ad A c []), (1, bR A c [])] ++ K) w) (hP : P10 w0) (hT : TzTab w0) :
    Calls Tryz.prog 73 #[selfP b, .slice l.A l.q l.c] w fun e w' => ∃ x : Option Addr × Nat, e = .returned (.tuple #[]) ∧ True ∧ Mem w0 ([(0, bB b (selfP b) x.1 x.2 (writeT none (l.l.map pfl))), (1, bR x.1 x.2 (writeT none (l.l.map pfl)))] ++ K) w' := by
  have ht := hl.ok.t
  refine enterM_args (args := [selfP b, .slice l.A l.q l.c]) (F := _) hM0 Tryz.func73 rfl Tryz.ntmps73 rfl rfl ?_
  intro Rb hRb hRn
  refine tx ?_
  refine sr 1 ?_
  refine s1 (y_len_slice rfl rfl Tryz.underlying22) ?_
  refine sr 1 ?_
  refine sgo ?_
  refine T_block ?_
  refine lK5 (kf := [(4, 6), (8, 8), (11, 66)]) (kl := [(0, 1), (4, 6), (8, 8), (11, 66)]) (fun (i : Nat) (L : List UInt8) (ad2 : Value) (A2 : Option Addr) (c2 : Nat) => [(11, true, .int .i64 (i : Int))]) (fun (i : Nat) (L : List UInt8) (ad2 : Value) (A2 : Option Addr) (c2 : Nat) => [(0, bB b ad2 A2 c2 L), (1, bR A2 c2 L)]) (fun (i : Nat) (L : List UInt8) (ad2 : Value) (A2 : Option Addr) (c2 : Nat) => i ≤ l.q ∧ L ++ writeT (prevP l.l i) ((l.l.drop i).map pfl) = writeT none (l.l.map pfl) ∧ (ad2 = .pointer none ∨ ad2 = selfP b) ∧ (0 < i → ad2 = selfP b) ∧ L.length ≤ i * 900000000) (fun (i : Nat) (L : List UInt8) (ad2 : Value) (A2 : Option Addr) (c2 : Nat) => l.q - i) 0 [] ad A c ?_ ?_ ?_ ?_
  · exact ⟨by omega, rfl, had, fun h => absurd h (Nat.lt_irrefl 0), Nat.zero_le _⟩
  · exact ⟨rfl, trivial⟩
  · exact ⟨rfl, rfl, trivial⟩
  rintro i L ad2 A2 c2 ⟨hp1, hp2, hp3, hp4, hp5⟩
  refine tx ?_
  refine sr 1 ?_
  refine sgs ?_
  refine T_cond rfl ?_ ?_ <;> intro h12
  · try simp only [nrm] at h12
    obtain ⟨x, hx1, hx2⟩ := ht.at (i := i) (by omega)
    have hn := hr x (mem_at hx1)
    have hxo := hl.n x (mem_at hx1)
    have hxt := fltOk_t hxo
    have hxc := hxo.fr.ok.cap
    have hxl := hxt.len
    have hxq := hn.q
    have hpl := preT_le (prevP l.l i)
    have hhl := headT_le hn.k hn.t
    have hfl := frmsT_le (p := (prevP l.l i)) hn
    have hol := oneT_le (p := (prevP l.l i)) hn
    have hs1 := sh2_le (shW (prevP l.l i) x.fr.l)
    have hs2 := shW_le (prevP l.l i) x.fr.l
    have hwt := writeT_cons (p := (prevP l.l i)) hx2
    refine kgs ?_
    refine T_block ?_
    refine tx ?_
    refine sr 1 ?_
    refine s1 (y_indexAddr rfl rfl rfl Tryz.underlying22 sz36 (fun hg => ht.isSome (by omega)) (fun _ => by omega)) ?_
    refine s1 (y_loadT rfl rfl ht (fun _ => rfl) (fun _ => hx1) Tryz.underlying36 rfl sz36) ?_
    refine S_alloc 5 5 rfl rfl rfl rfl z36 ?_
    intro b5
    refine sr 1 ?_
    refine S_store 5 rfl rfl rfl rfl rfl rfl sz36 rfl rfl ?_
    refine sgx ?_
    refine sr 1 ?_
    refine sgs ?_
    refine tx ?_
    refine sr 2 ?_
    refine sgo ?_
    refine T_mid (kf := [(6, 6), (18, 28)]) (kl := [(0, 1), (6, 6), (18, 28)]) (fun y : BdR b => [(6, true, .int .i64 ((shW (prevP l.l i) x.fr.l : Nat) : Int))]) (fun y : BdR b => [(0, bB b y.ad y.A y.c (L ++ preT (prevP l.l i))), (1, bR y.A y.c (L ++ preT (prevP l.l i)))]) (by repeat (first | exact kf_nil | (apply kf_in; focus rfl) | (apply kf_out; focus rfl))) (by repeat (first | exact kl_nil | exact kl_rest (by assumption) rfl | (apply kl_in; focus rfl) | (apply kl_out; focus rfl))) ?_ ?_
    · skip
      refine T_cond rfl ?_ ?_ <;> intro h17
      · try simp only [nrm] at h17
        obtain ⟨v, hv1, hv2⟩ := ht.at (i := i - 1) (by omega)
        have hpv := prevP_pos (by omega) hv1
        have hvq := (hr v (mem_at hv1)).q
        have hvl := (fltOk_t (hl.n v (mem_at hv1))).len
        refine tx ?_
        refine sr 1 ?_
        refine S_callM 19 [(0, 0), (1, 1)] (X := Option Addr × Nat) rfl rfl rfl rfl rfl rfl rfl cf31 rfl (fun _ => .tuple #[.int .i64 (causeB).length, .nilIface]) (fun _ => True) (fun z0 => [(0, bB b (selfP b) z0.1 z0.2 (L ++ causeB)), (1, bR z0.1 z0.2 (L ++ causeB))]) (fun _ => rfl) (fun _ => rfl) (fun K1 hK1 w hM => (WStr_any hK1 b _ _ _ (L) (causeB) (hp3) (by simp only [List.length_cons, List.length_nil]; omega) w hM).mono fun e w1 h => h.elim fun x h => ⟨x, h.1, trivial, h.2.2⟩) ?_
        intro x19 hx19
        refine sgo ?_
        refine T_draws (by kernel_rfl) (by kernel_rfl) ?_
        refine d1 (y_move rfl rfl) ?_
        refine d1 (y_move rfl rfl) ?_
        refine d1 (y_bin rfl rfl rfl (fun hg => b_subv (((i - 1 : Nat) : Int)) (by omega) (by omega))) ?_
        refine d1 (y_indexAddr rfl rfl rfl Tryz.underlying22 sz36 (fun _ => ht.isSome (by omega)) (fun _ => by omega)) ?_
        refine d1 (y_fieldEl rfl rfl ht.rd (fun _ => by omega) fa36_2) ?_
        refine d1 (y_load_fT rfl rfl ht (fun _ => rfl) (fun _ => hv1) rfl Tryz.underlying32 rfl) ?_
        refine d1 (yF fa36_2) ?_
        refine d1 (yL 5 Tryz.underlying32) ?_
        refine d1 (y_call rfl rfl rfl cf164 (fun _ w hM => Shared_any _ _ _ _ _ _ _ _ w ((fltOk_t (hl.n v (mem_at hv1))).below hM.below) (hxt.below hM.below) (by omega) (by omega))) ?_
        refine d1 (y_assign rfl rfl) ?_
        refine D_nil (mid_end (kf := [(6, 6), (18, 28)]) (kl := [(0, 1), (6, 6), (18, 28)]) (⟨selfP b, x19.1, x19.2, .inr rfl⟩) (by repeat (first | exact kf_nil | (apply kf_in; focus rfl) | (apply kf_out; focus rfl))) (by repeat (first | exact kl_nil | exact kl_rest (by assumption) rfl | (apply kl_in; focus rfl) | (apply kl_out; focus rfl))) ?_ ?_)
        · exact ⟨by rw [hpv]; rfl, trivial⟩
        · exact ⟨by rw [hpv]; rfl, by rw [hpv]; rfl, trivial⟩
      try simp only [nrm] at h17
      have hi0 : i = 0 := by omega
      have hpv : prevP l.l i = none := by rw [hi0]; rfl
      have hLp : L ++ preT (prevP l.l i) = L := by rw [hpv]; exact List.append_nil L
      refine T_skip (mid_end (kf := [(6, 6), (18, 28)]) (kl := [(0, 1), (6, 6), (18, 28)]) (⟨ad2, A2, c2, hp3⟩) (by repeat (first | exact kf_nil | (apply kf_in; focus rfl) | (apply kf_out; focus rfl))) (by repeat (first | exact kl_nil | exact kl_rest (by assumption) rfl | (apply kl_in; focus rfl) | (apply kl_out; focus rfl))) ?_ ?_)
      · exact ⟨by rw [hpv]; rfl, trivial⟩
      · exact ⟨by rw [hLp]; rfl, by rw [hLp]; rfl, trivial⟩
    intro y
    refine sgx ?_
    refine sr 1 ?_
    refine s1 (yA 5 rfl Tryz.underlying36 sz36) ?_
    refine s1 (y_call rfl rfl rfl cf165 (fun _ w _ => head_any x hn.k hn.t w)) ?_
    refine S_callM 32 [(0, 0), (1, 1)] (X := Option Addr × Nat) rfl rfl rfl rfl rfl rfl rfl cf31 rfl (fun _ => .tuple #[.int .i64 (headT x.k x.t).length, .nilIface]) (fun _ => True) (fun z0 => [(0, bB b (selfP b) z0.1 z0.2 ((L ++ preT (prevP l.l i)) ++ headT x.k x.t)), (1, bR z0.1 z0.2 ((L ++ preT (prevP l.l i)) ++ headT x.k x.t))]) (fun _ => rfl) (fun _ => rfl) (fun K1 hK1 w hM => (WStr_any hK1 b _ _ _ ((L ++ preT (prevP l.l i))) (headT x.k x.t) (y.ok) (by rw [List.length_append]; omega) w hM).mono fun e w1 h => h.elim fun x h => ⟨x, h.1, trivial, h.2.2⟩) ?_
    intro x32 hx32
    refine sgs ?_
    refine tx ?_
    refine sr 2 ?_
    refine sgo ?_
    refine T_mid (kf := [(6, 6)]) (kl := [(6, 6)]) (fun u : Unit => [(6, true, .int .i64 (((sh2 (shW (prevP l.l i) x.fr.l)) : Nat) : Int))]) (fun u : Unit => []) (by repeat (first | exact kf_nil | (apply kf_in; focus rfl) | (apply kf_out; focus rfl))) (by repeat (first | exact kl_nil | exact kl_rest (by assumption) rfl | (apply kl_in; focus rfl) | (apply kl_out; focus rfl))) ?_ ?_
    · skip
      refine T_cond rfl ?_ ?_ <;> intro h34
      · try simp only [nrm] at h34
        refine T_region ?_
        refine sr 1 ?_
        refine S_nil (mid_end (kf := [(6, 6)]) (kl := [(6, 6)]) (()) (by repeat (first | exact kf_nil | (apply kf_in; focus rfl) | (apply kf_out; focus rfl))) (by repeat (first | exact kl_nil | exact kl_rest (by assumption) rfl | (apply kl_in; focus rfl) | (apply kl_out; focus rfl))) ?_ ?_)
        · exact ⟨by rw [sh2, if_pos (by omega)]; rfl, trivial⟩
        · exact trivial
      try simp only [nrm] at h34
      refine T_skip (mid_end (kf := [(6, 6)]) (kl := [(6, 6)]) (()) (by repeat (first | exact kf_nil | (apply kf_in; focus rfl) | (apply kf_out; focus rfl))) (by repeat (first | exact kl_nil | exact kl_rest (by assumption) rfl | (apply kl_in; focus rfl) | (apply kl_out; focus rfl))) ?_ ?_)
      · exact ⟨by rw [sh2, if_neg (by omega)]; rfl, trivial⟩
      · exact trivial
    intro u
    have hcut := hxt.cut (lo := 0) (hi := x.fr.q - (sh2 (shW (prevP l.l i) x.fr.l))) (c := x.fr.c) (fun _ => rfl) (by omega) (by omega) hxc
    have hfm := fr_cut (p := (prevP l.l i)) hxl rfl
    refine sgs ?_
    refine tx ?_
    refine s1 (yF fa36_2) ?_
    refine s1 (yL 5 Tryz.underlying32) ?_
    refine s1 (yF fa36_2) ?_
    refine s1 (yL 5 Tryz.underlying32) ?_
    refine s1 (y_len_slice rfl rfl Tryz.underlying32) ?_
    refine sr 1 ?_
    refine s1 (y_bin rfl rfl rfl (fun hg => b_subv (((x.fr.q - sh2 (shW (prevP l.l i) x.fr.l) : Nat) : Int)) (by omega) (by omega))) ?_
    refine s1 (y_slice rfl rfl Tryz.underlying32 sz45 (.inl ⟨rfl, rfl⟩) (.inr ⟨_, _, rfl, rfl⟩) (by omega) (by omega) hxc) ?_
    refine s1 (y_len_slice rfl rfl Tryz.underlying32) ?_
    refine sr 1 ?_
    refine sgo ?_
    refine T_block ?_
    refine lK4 (kf := [(8, 8), (44, 57)]) (kl := [(0, 1), (8, 8), (44, 57)]) (fun (j : Nat) (L2 : List UInt8) (A3 : Option Addr) (c3 : Nat) => [(44, true, .int .i64 (j : Int))]) (fun (j : Nat) (L2 : List UInt8) (A3 : Option Addr) (c3 : Nat) => [(0, bB b (selfP b) A3 c3 L2), (1, bR A3 c3 L2)]) (fun (j : Nat) (L2 : List UInt8) (A3 : Option Addr) (c3 : Nat) => j ≤ x.fr.q - (sh2 (shW (prevP l.l i) x.fr.l)) - 0 ∧ L2 ++ (((x.fr.l.drop 0).take (x.fr.q - (sh2 (shW (prevP l.l i) x.fr.l)) - 0)).drop j).flatMap frameT = (L ++ preT (prevP l.l i) ++ headT x.k x.t) ++ ((x.fr.l.drop 0).take (x.fr.q - (sh2 (shW (prevP l.l i) x.fr.l)) - 0)).flatMap frameT) (fun (j : Nat) (L2 : List UInt8) (A3 : Option Addr) (c3 : Nat) => x.fr.q - (sh2 (shW (prevP l.l i) x.fr.l)) - 0 - j) 0 (L ++ preT (prevP l.l i) ++ headT x.k x.t) x32.1 x32.2 ?_ ?_ ?_ ?_
    · exact ⟨by omega, rfl⟩
    · exact ⟨rfl, trivial⟩
    · exact ⟨rfl, rfl, trivial⟩
    rintro j L2 A3 c3 ⟨hq1, hq2⟩
    refine tx ?_
    refine sr 1 ?_
    refine sgs ?_
    refine T_cond rfl ?_ ?_ <;> intro h45
    · try simp only [nrm] at h45
      obtain ⟨z, hz1, hz2⟩ := hcut.at (i := j) (by omega)
      have hzn := hn.n z (List.mem_of_mem_drop (List.mem_of_mem_take (mem_at hz1)))
      have hzl := frameT_le hzn
      have hzc := callT_le hzn.s
      have hzp := placeT_le hzn
      have hfml := congrArg List.length hfm
      have hlx := congrArg List.length hq2
      rw [hz2, List.flatMap_cons] at hq2
      simp only [List.length_append] at hlx
      refine kgs ?_
      refine T_block ?_
      refine tx ?_
      refine s1 (y_indexAddr rfl rfl rfl Tryz.underlying32 sz45 (fun hg => hcut.isSome (by omega)) (fun _ => by omega)) ?_
      refine s1 (y_loadT rfl rfl hcut (fun _ => rfl) (fun _ => hz1) Tryz.underlying45 rfl sz45) ?_
      refine S_alloc 8 8 rfl rfl rfl rfl z45 ?_
      intro b8
      refine S_store 8 rfl rfl rfl rfl rfl rfl sz45 rfl rfl ?_
      refine sgo ?_
      refine T_drawsTail 8 (by kernel_rfl) (by kernel_rfl) ?_
      refine d1 (y_move rfl rfl) ?_
      refine d1 (yA 8 rfl Tryz.underlying45 sz45) ?_
      refine d1 (y_call rfl rfl rfl cf166 (fun _ w _ => call_any z hzn.s w)) ?_
      refine d1 (y_bin rfl rfl rfl (fun hg => b_adds (by first | omega | (simp only [List.length_append, List.length_cons, List.length_nil]; omega)))) ?_
      refine d1 (yA 8 rfl Tryz.underlying45 sz45) ?_
      refine d1 (y_call rfl rfl rfl cf167 (fun _ w hM => place_any z hzn w (hP.below hM.below) (hT.below hM.below))) ?_
      refine d1 (y_bin rfl rfl rfl (fun hg => b_adds (by first | omega | (simp only [List.length_append, List.length_cons, List.length_nil]; omega)))) ?_
      refine d1 (y_as (v' := str (frameT z)) (by exact rfl) (y_bin rfl rfl rfl (fun hg => b_adds (by first | omega | (simp only [List.length_append, List.length_cons, List.length_nil]; omega))))) ?_
      refine D_tail ?_
      refine S_callM 56 [(0, 0), (1, 1)] (X := Option Addr × Nat) rfl rfl rfl rfl rfl rfl rfl cf31 rfl (fun _ => .tuple #[.int .i64 (frameT z).length, .nilIface]) (fun _ => True) (fun z0 => [(0, bB b (selfP b) z0.1 z0.2 (L2 ++ frameT z)), (1, bR z0.1 z0.2 (L2 ++ frameT z))]) (fun _ => rfl) (fun _ => rfl) (fun K1 hK1 w hM => (WStr_any hK1 b _ _ _ (L2) (frameT z) (.inr rfl) (by omega) w hM).mono fun e w1 h => h.elim fun x h => ⟨x, h.1, trivial, h.2.2⟩) ?_
      intro x56 hx56
      refine sgr ?_
      refine s1 (y_bin rfl rfl rfl (fun hg => b_add (by omega))) ?_
      refine sr 1 ?_
      refine S_nil (nK4 (kf := [(8, 8), (44, 57)]) (kl := [(0, 1), (8, 8), (44, 57)]) (j + 1) (L2 ++ frameT z) x56.1 x56.2 ?_ ?_ ?_ ?_)
      · omega
      · exact ⟨by omega, by rw [← hq2, List.append_assoc]⟩
      · exact ⟨rfl, trivial⟩
      · exact ⟨rfl, rfl, trivial⟩
    try simp only [nrm] at h45
    have hL2 : L2 = (L ++ preT (prevP l.l i) ++ headT x.k x.t) ++ frmsT (prevP l.l i) x.fr.l := by rw [hcut.end (by omega)] at hq2; rw [← hfm, ← hq2]; exact (List.append_nil L2).symm
    have hll := congrArg List.length hL2
    simp only [List.length_append] at hll
    refine egx ?_
    refine sr 2 ?_
    refine sgo ?_
    refine T_mid (kf := [(60, 65)]) (kl := [(0, 1), (60, 65)]) (fun v : Option Addr × Nat => []) (fun v : Option Addr × Nat => [(0, bB b (selfP b) v.1 v.2 (L ++ oneT (prevP l.l i) (pfl x))), (1, bR v.1 v.2 (L ++ oneT (prevP l.l i) (pfl x)))]) (by repeat (first | exact kf_nil | (apply kf_in; focus rfl) | (apply kf_out; focus rfl))) (by repeat (first | exact kl_nil | exact kl_rest (by assumption) rfl | (apply kl_in; focus rfl) | (apply kl_out; focus rfl))) ?_ ?_
    · skip
      refine T_cond rfl ?_ ?_ <;> intro h59
      · try simp only [nrm] at h59
        have hE : L2 ++ (dotB ++ Lib.itoa (((sh2 (shW (prevP l.l i) x.fr.l)) : Nat) : Int) ++ moreB ++ [10]) = L ++ oneT (prevP l.l i) (pfl x) := by
          rw [hL2]
          show _ = L ++ (preT (prevP l.l i) ++ headT x.k x.t ++ frmsT (prevP l.l i) x.fr.l ++ dotT (sh2 (shW (prevP l.l i) x.fr.l)))
          rw [dotT, if_neg (by omega)]
          simp only [List.append_assoc]
        have hil := itoa_le (((sh2 (shW (prevP l.l i) x.fr.l)) : Nat) : Int) (by omega)
        refine T_region ?_
        refine sr 2 ?_
        refine s1 (y_call rfl rfl rfl cf33 (fun _ w hM => Itoa_any _ (by omega) (by omega) w (hP.below hM.below))) ?_
        refine s1 (y_bin rfl rfl rfl (fun hg => b_adds (by first | omega | (simp only [List.length_append, List.length_cons, List.length_nil]; omega)))) ?_
        refine s1 (y_as (v' := str (dotB ++ Lib.itoa ((sh2 (shW (prevP l.l i) x.fr.l) : Nat) : Int) ++ moreB ++ [10])) (by simp) (y_bin rfl rfl rfl (fun hg => b_adds (by first | omega | (simp only [List.length_append, List.length_cons, List.length_nil]; omega))))) ?_
        refine S_callM 65 [(0, 0), (1, 1)] (X := Option Addr × Nat) rfl rfl rfl rfl rfl rfl rfl cf31 rfl (fun _ => .tuple #[.int .i64 ((dotB ++ Lib.itoa ((sh2 (shW (prevP l.l i) x.fr.l) : Nat) : Int) ++ moreB ++ [10])).length, .nilIface]) (fun _ => True) (fun z0 => [(0, bB b (selfP b) z0.1 z0.2 (L2 ++ (dotB ++ Lib.itoa ((sh2 (shW (prevP l.l i) x.fr.l) : Nat) : Int) ++ moreB ++ [10]))), (1, bR z0.1 z0.2 (L2 ++ (dotB ++ Lib.itoa ((sh2 (shW (prevP l.l i) x.fr.l) : Nat) : Int) ++ moreB ++ [10])))]) (fun _ => rfl) (fun _ => rfl) (fun K1 hK1 w hM => (WStr_any hK1 b _ _ _ (L2) ((dotB ++ Lib.itoa ((sh2 (shW (prevP l.l i) x.fr.l) : Nat) : Int) ++ moreB ++ [10])) (.inr rfl) (by simp only [List.length_append, List.length_cons, List.length_nil]; omega) w hM).mono fun e w1 h => h.elim fun x h => ⟨x, h.1, trivial, h.2.2⟩) ?_
        intro x65 hx65
        refine S_nil (mid_end (kf := [(60, 65)]) (kl := [(0, 1), (60, 65)]) ((x65.1, x65.2)) (by repeat (first | exact kf_nil | (apply kf_in; focus rfl) | (apply kf_out; focus rfl))) (by repeat (first | exact kl_nil | exact kl_rest (by assumption) rfl | (apply kl_in; focus rfl) | (apply kl_out; focus rfl))) ?_ ?_)
        · exact trivial
        · exact ⟨by rw [← hE]; rfl, by rw [← hE]; rfl, trivial⟩
      try simp only [nrm] at h59
      have hE : L2 = L ++ oneT (prevP l.l i) (pfl x) := by
        rw [hL2]
        show _ = L ++ (preT (prevP l.l i) ++ headT x.k x.t ++ frmsT (prevP l.l i) x.fr.l ++ dotT (sh2 (shW (prevP l.l i) x.fr.l)))
        rw [dotT, if_pos (by omega)]
        simp only [List.append_assoc, List.append_nil]
      refine T_skip (mid_end (kf := [(60, 65)]) (kl := [(0, 1), (60, 65)]) ((A3, c3)) (by repeat (first | exact kf_nil | (apply kf_in; focus rfl) | (apply kf_out; focus rfl))) (by repeat (first | exact kl_nil | exact kl_rest (by assumption) rfl | (apply kl_in; focus rfl) | (apply kl_out; focus rfl))) ?_ ?_)
      · exact trivial
      · exact ⟨by rw [← hE]; rfl, by rw [← hE]; rfl, trivial⟩
    intro v
    refine sgr ?_
    refine s1 (y_bin rfl rfl rfl (fun hg => b_add (by omega))) ?_
    refine sr 1 ?_
    refine S_nil (nK5 (kf := [(4, 6), (8, 8), (11, 66)]) (kl := [(0, 1), (4, 6), (8, 8), (11, 66)]) (i + 1) (L ++ oneT (prevP l.l i) (pfl x)) (selfP b) v.1 v.2 ?_ ?_ ?_ ?_)
    · omega
    · exact ⟨by omega, by rw [← hp2, hwt, prevP_next hx1, List.append_assoc], .inr rfl, fun _ => rfl, by rw [List.length_append]; omega⟩
    · exact ⟨rfl, trivial⟩
    · exact ⟨rfl, rfl, trivial⟩
  try simp only [nrm] at h12
  refine T_exit (fun a w hF hM => hRn a w (post0 rfl (fun w hM => ?_) a w hF hM))
  have hi : i = l.q := by omega
  have hL : L = writeT none (l.l.map pfl) := by rw [← hp2, ht.end (by omega)]; exact (List.append_nil L).symm
  have had2 := hp4 (by omega)
  subst had2
  rw [← hL]
  exact ⟨(A2, c2), rfl, trivial, hM.keep (ks := [(0, 999)]) (by repeat (first | exact kl_rest (by assumption) rfl | (apply kl_in; focus rfl))) _ ⟨rfl, rfl, trivial⟩⟩
theorem writeT_pos {p : Option (List Frm)} {l : List Flt} (h : 0 < l.length) : 2 ≤ (writeT p (l.map pfl)).length := by
  cases l with
  | nil => cases h
  | cons f r =>
    have e : writeT p ((f :: r).map pfl) = (preT p ++ headT f.k f.t ++ frmsT p f.fr.l ++ dotT (sh2 (shW p f.fr.l))) ++ writeT (some f.fr.l) (r.map pfl) := rfl
    have e2 : 2 ≤ (headT f.k f.t).length := by unfold headT; split <;> simp only [List.length_append, List.length_cons, List.length_nil] <;> omega
    rw [e]; simp only [List.length_append]; omega
def wrNo (l : Sl Flt) : Int := if bangL l.l = true then 9 else if (1000000 : Int) < (writeT none (l.l.map pfl)).length then 4 else 0
def wrS (l : Sl Flt) : List UInt8 := if wrNo l = 0 then writeT none (l.l.map pfl) else []
theorem bangL_cons (x : Flt) (r : List Flt) : bangL (x :: r) = (x.fr.l.any bangF || bangL r) := rfl
theorem sWrite_any (l : Sl Flt) (w : World) (hl : FltsOk w l) (hno : faultsNo l = 0) (hP : P10 w) (hT : TzTab w) :
    Calls Tryz.prog 29 #[.slice l.A l.q l.c, .int .i64 1] w fun e w' => e = .returned (.tuple #[str (wrS l), .int .i64 (wrNo l)]) ∧ Below w.heap.size w w' := by
  have ht := hl.ok.t
  have hlen := ht.len
  obtain ⟨h0, h10, hr⟩ := faultsNo_right hl hno
  have hwl := writeT_le (n := 0) (p := none) hr
  have hwp := writeT_pos (p := none) (l := l.l) (by omega)
  refine enter_args (args := [.slice l.A l.q l.c, .int .i64 1]) (F := _) Tryz.func29 rfl Tryz.ntmps29 rfl rfl ?_
  intro Rb hRb hRn
  refine tx ?_
  refine sr 2 ?_
  refine sgs ?_
  refine tx ?_
  refine sr 1 ?_
  refine s1 (y_call rfl rfl rfl cf21 (fun _ w1 hM => sCheck_any l w1 (hl.below hM.below))) ?_
  refine sr 1 ?_
  refine sgx ?_
  refine sr 2 ?_
  refine sgo ?_
  refine T_cond rfl ?_ ?_ <;> intro h15
  · try simp only [nrm] at h15
    exact absurd hno h15
  try simp only [nrm] at h15
  refine kgs ?_
  refine tx ?_
  refine sr 1 ?_
  refine s1 (y_call rfl rfl rfl cf71 (fun _ w _ => soutside_any _ _ _ w)) ?_
  refine sgo ?_
  refine T_cond rfl ?_ ?_ <;> intro h18
  · skip
    cases h18
  refine kgs ?_
  refine tx ?_
  refine sr 1 ?_
  refine s1 (y_len_slice rfl rfl Tryz.underlying22) ?_
  refine sr 1 ?_
  refine sgo ?_
  refine T_block ?_
  refine lK1 (kf := [(4, 5), (8, 8), (10, 10), (21, 41)]) (kl := [(4, 5), (8, 8), (10, 10), (21, 41)]) (fun (i : Nat) => [(21, true, .int .i64 (i : Int))]) (fun (i : Nat) => []) (fun (i : Nat) => i ≤ l.q ∧ bangL l.l = bangL (l.l.drop i)) (fun (i : Nat) => l.q - i) 0 ?_ ?_ ?_ ?_
  · exact ⟨by omega, rfl⟩
  · exact ⟨rfl, trivial⟩
  · exact trivial
  rintro i ⟨hp1, hp2⟩
  refine tx ?_
  refine sr 1 ?_
  refine sgs ?_
  refine T_cond rfl ?_ ?_ <;> intro h22
  · try simp only [nrm] at h22
    obtain ⟨x, hx1, hx2⟩ := ht.at (i := i) (by omega)
    have hxt := fltOk_t (hl.n x (mem_at hx1))
    have hxq := (hr x (mem_at hx1)).q
    have hxl := hxt.len
    refine kgs ?_
    refine T_block ?_
    refine tx ?_
    refine s1 (y_indexAddr rfl rfl rfl Tryz.underlying22 sz36 (fun hg => ht.isSome (by omega)) (fun _ => by omega)) ?_
    refine s1 (y_loadT rfl rfl ht (fun _ => rfl) (fun _ => hx1) Tryz.underlying36 rfl sz36) ?_
    refine S_alloc 8 8 rfl rfl rfl rfl z36 ?_
    intro b8
    refine S_store 8 rfl rfl rfl rfl rfl rfl sz36 rfl rfl ?_
    refine sgx ?_
    refine s1 (yF fa36_2) ?_
    refine s1 (yL 8 Tryz.underlying32) ?_
    refine s1 (y_len_slice rfl rfl Tryz.underlying32) ?_
    refine sr 1 ?_
    refine sgo ?_
    refine T_block ?_
    refine lK1 (kf := [(4, 5), (10, 10), (28, 40)]) (kl := [(4, 5), (10, 10), (28, 40)]) (fun (j : Nat) => [(28, true, .int .i64 (j : Int))]) (fun (j : Nat) => []) (fun (j : Nat) => j ≤ x.fr.q ∧ x.fr.l.any bangF = (x.fr.l.drop j).any bangF) (fun (j : Nat) => x.fr.q - j) 0 ?_ ?_ ?_ ?_
    · exact ⟨by omega, rfl⟩
    · exact ⟨rfl, trivial⟩
    · exact trivial
    rintro j ⟨hq1, hq2⟩
    refine tx ?_
    refine sr 1 ?_
    refine sgs ?_
    refine T_cond rfl ?_ ?_ <;> intro h29
    · try simp only [nrm] at h29
      obtain ⟨z, hz1, hz2⟩ := hxt.at (i := j) (by omega)
      refine kgs ?_
      refine T_block ?_
      refine tx ?_
      refine s1 (y_indexAddr rfl rfl rfl Tryz.underlying32 sz45 (fun hg => hxt.isSome (by omega)) (fun _ => by omega)) ?_
      refine s1 (y_loadT rfl rfl hxt (fun _ => rfl) (fun _ => hz1) Tryz.underlying45 rfl sz45) ?_
      refine S_alloc 10 10 rfl rfl rfl rfl z45 ?_
      intro b10
      refine S_store 10 rfl rfl rfl rfl rfl rfl sz45 rfl rfl ?_
      refine sgx ?_
      refine s1 (yF fa45_1) ?_
      refine s1 (yL 10 Tryz.underlying9) ?_
      refine s1 (y_call rfl rfl rfl cf72 (fun _ w _ => Contains1_any _ 33 w)) ?_
      refine sr 1 ?_
      refine sg rfl (yF fa45_0) ?_
      refine sg rfl (yL 10 Tryz.underlying9) ?_
      refine sg rfl (y_call rfl rfl rfl cf72 (fun _ w _ => Contains1_any _ 33 w)) ?_
      refine s1 (y_as (v' := .bool (bangF z)) (by exact rfl) (y_or rfl rfl rfl)) ?_
      refine sgo ?_
      refine T_cond rfl ?_ ?_ <;> intro h39
      · skip
        refine tx ?_
        refine sr 2 ?_
        refine sgo ?_
        refine tr2 hRb fun w hM => ?_
        have e : wrNo l = 9 := if_pos (by rw [hp2, hx2, bangL_cons, hq2, hz2, any_t h39, Bool.true_or])
        exact ⟨by rw [wrS, e]; rfl, hM.below⟩
      refine kgr ?_
      refine s1 (y_bin rfl rfl rfl (fun hg => b_add (by omega))) ?_
      refine sr 1 ?_
      refine S_nil (nK1 (kf := [(4, 5), (10, 10), (28, 40)]) (kl := [(4, 5), (10, 10), (28, 40)]) (j + 1) ?_ ?_ ?_ ?_)
      · omega
      · exact ⟨by omega, by rw [hq2, hz2, any_f h39]⟩
      · exact ⟨rfl, trivial⟩
      · exact trivial
    try simp only [nrm] at h29
    have hb1 : x.fr.l.any bangF = false := by rw [hq2, hxt.end (by omega)]; rfl
    refine egr ?_
    refine s1 (y_bin rfl rfl rfl (fun hg => b_add (by omega))) ?_
    refine sr 1 ?_
    refine S_nil (nK1 (kf := [(4, 5), (8, 8), (10, 10), (21, 41)]) (kl := [(4, 5), (8, 8), (10, 10), (21, 41)]) (i + 1) ?_ ?_ ?_ ?_)
    · omega
    · exact ⟨by omega, by rw [hp2, hx2, bangL_cons, hb1, Bool.false_or]⟩
    · exact ⟨rfl, trivial⟩
    · exact trivial
  try simp only [nrm] at h22
  have hb0 : ¬ bangL l.l = true := by rw [hp2, ht.end (by omega)]; exact Bool.false_ne_true
  refine egx ?_
  refine S_alloc 11 11 rfl rfl rfl rfl z73 ?_
  intro b11
  refine S_nilSlice 900 (e := 5) (size := 1) ?_
  refine sgs ?_
  refine tx ?_
  refine sr 1 ?_
  refine sgo ?_
  refine T_block ?_
  refine tx ?_
  refine sr 2 ?_
  refine sgo ?_
  refine T_cond rfl ?_ ?_ <;> intro h45
  · skip
    refine T_region ?_
    refine sr 1 ?_
    refine S_callM 48 [(0, 11), (1, 900)] (X := Option Addr × Nat) rfl rfl rfl rfl rfl rfl rfl cf73 rfl (fun _ => .tuple #[]) (fun _ => True) (fun z => [(0, bB b11 (selfP b11) z.1 z.2 (writeT none (l.l.map pfl))), (1, bR z.1 z.2 (writeT none (l.l.map pfl)))]) (fun _ => rfl) (fun _ => rfl) (fun K1 hK1 w1 hM => writeInner_any hK1 b11 _ _ _ l (.inl rfl) hl hr h0 h10 w1 hM hP hT) ?_
    intro x48 _
    refine sgs ?_
    refine tx ?_
    refine s1 (y_call rfl rfl rfl cf35 (fun _ w1 hM => BLen_any b11 x48.1 (writeT none (l.l.map pfl)).length x48.2 w1 (hM.box_cell (i := 11) rfl rfl))) ?_
    refine sr 1 ?_
    refine sgo ?_
    refine T_cond rfl ?_ ?_ <;> intro h54
    · try simp only [nrm] at h54
      refine tx ?_
      refine sr 2 ?_
      refine sgo ?_
      refine tr2 hRb fun w hM => ?_
      have e : wrNo l = 4 := by rw [wrNo, if_neg hb0, if_pos (by omega)]
      exact ⟨by rw [wrS, e]; rfl, hM.below⟩
    try simp only [nrm] at h54
    refine kgx ?_
    refine S_callM 55 [(0, 11), (1, 900)] (X := Unit) rfl rfl rfl rfl rfl rfl rfl cf36 rfl (fun _ => str ((writeT none (l.l.map pfl)))) (fun _ => True) (fun _ => [(1, bR none 0 []), (0, bB b11 (selfP b11) x48.1 x48.2 ((writeT none (l.l.map pfl))))]) (fun _ => rfl) (fun _ => rfl) (fun K1 hK1 w hM => (BStr_any hK1 b11 _ _ _ ((writeT none (l.l.map pfl))) (by omega) (by omega) w hM).mono fun e w1 h => ⟨(), h.1, trivial, h.2⟩) ?_
    intro _ _
    refine sr 2 ?_
    refine sgo ?_
    refine tr2 hRb fun w hM => ?_
    have e : wrNo l = 0 := by rw [wrNo, if_neg hb0, if_neg (by omega)]
    exact ⟨by rw [wrS, e]; rfl, hM.below⟩
  simp at h45
end Go.Proofs.YtgbldojgbpgjbaaGreatDoor
end
section
namespace Go.Proofs.YtgbldojgbpgjbaaGreatDoor
set_option linter.unusedSimpArgs false
set_option linter.unusedVariables false
set_option maxRecDepth 20000
open Go.RowKit Go.Eng
abbrev wsI (A : Option Addr) (c : Nat) (ws : List (List UInt8)) : It := .own 9 1 (.slice A ws.length c) ws.length (ws.flatMap strE)
/-- items that are no more wanted are left -/
theorem S_keepM {P : Program} {w0 : World} {n : Nat} {ops : Array Oper} {l : List Oper} {F : FL} {L : HL} {Q : Exit → Act → World → Prop} (ks : List (Nat × Nat)) (KL : HL) (hK : KeepL ks L KL) (h : S P w0 n ops l F KL Q) : S P w0 n ops l F L Q := fun a w hF hM => h a w hF (hM.keep hK [] trivial)
end Go.Proofs.YtgbldojgbpgjbaaGreatDoor
end
section
namespace Go.Proofs.YtgbldojgbpgjbaaGreatDoor
set_option linter.unusedSimpArgs false
set_option linter.unusedVariables false
set_option maxRecDepth 20000
open Go.RowKit Go.Eng
theorem lineC_any {w0 : World} {K : HL} (hK : FromK K) (b : Nat) (ad : Value) (A : Option Addr) (c : Nat) (l : List UInt8) (B : Option Addr) (d : Nat) (ws : List (List UInt8)) (had : ad = .pointer none ∨ ad = selfP b) (hn : ws.length ≤ 100) (hlen : l.length + (lnT ws).length ≤ 140737488355328) (w : World) (hM0 : Mem w0 ([(0, bB b ad A c l), (1, bR A c l), (2, wsI B d ws)] ++ K) w) :
    Calls Tryz.prog 30 #[.slice B ws.length d, selfP b] w fun e w' => ∃ x : Option Addr × Nat, e = .returned (.tuple #[]) ∧ True ∧ Mem w0 ([(0, bB b (selfP b) x.1 x.2 (l ++ lnT ws)), (1, bR x.1 x.2 (l ++ lnT ws)), (2, wsI B d ws)] ++ K) w' := by
  have hjl : (jnS [32] ws).length + 1 = (lnT ws).length := by rw [lnT, List.length_append]; rfl
  refine enterM_args (args := [.slice B ws.length d, selfP b]) (F := _) hM0 Tryz.func30 rfl Tryz.ntmps30 rfl rfl ?_
  intro Rb hRb hRn
  refine T_region ?_
  refine sr 1 ?_
  refine s1 (y_call rfl rfl rfl cf32 (fun _ w hM => JoinS_any [32] _ _ _ ws w (row_ok (enc := strE) (hM.sat 2 _ rfl) rfl).t (row_ok (enc := strE) (hM.sat 2 _ rfl) rfl).cap (by omega) (by omega))) ?_
  refine s1 (y_as (v' := str (lnT ws)) (by exact rfl) (y_bin rfl rfl rfl (fun hg => b_adds (by first | omega | (simp only [List.length_append, List.length_cons, List.length_nil]; omega))))) ?_
  refine S_callM 6 [(0, 0), (1, 1)] (X := Option Addr × Nat) rfl rfl rfl rfl rfl rfl rfl cf31 rfl (fun _ => .tuple #[.int .i64 (lnT ws).length, .nilIface]) (fun _ => True) (fun z0 => [(0, bB b (selfP b) z0.1 z0.2 (l ++ lnT ws)), (1, bR z0.1 z0.2 (l ++ lnT ws))]) (fun _ => rfl) (fun _ => rfl) (fun K1 hK1 w hM => (WStr_any hK1 b _ _ _ (l) (lnT ws) (had) (by omega) w hM).mono fun e w1 h => h.elim fun x h => ⟨x, h.1, trivial, h.2.2⟩) ?_
  intro x6 hx6
  refine S_nil (fun a w hF hM => hRn a w (post0 rfl (fun w hM => ?_) a w hF hM))
  exact ⟨(x6.1, x6.2), rfl, trivial, hM.keep (ks := [(0, 999)]) (by repeat (first | exact kl_rest (by assumption) rfl | (apply kl_in; focus rfl))) _ ⟨rfl, rfl, rfl, trivial⟩⟩
theorem lv_at {n : Int} (h : 1 ≤ n ∧ n ≤ 5) : levels[(n - 1).toNat]? = some (lvW n) := by
  have h1 : n = 1 ∨ n = 2 ∨ n = 3 ∨ n = 4 ∨ n = 5 := by omega
  rcases h1 with rfl | rfl | rfl | rfl | rfl <;> rfl
theorem text_wr {e : Evt} (h : evNo e = 0) (h2 : ¬ wrNo e.fa = 0) : textNo e = wrNo e.fa := by
  refine fst_b h ?_
  unfold wrNo at h2 ⊢
  by_cases h3 : bangL e.fa.l = true
  · rw [if_pos h3, if_pos h3]
  · rw [if_neg h3] at h2 ⊢
    by_cases h4 : (1000000 : Int) < (writeT none (e.fa.l.map pfl)).length
    · rw [if_neg h3, if_pos h4, if_pos (by show (1000000 : Int) < (hdT e ++ writeT none (e.fa.l.map pfl)).length; rw [List.length_append]; omega)]
    · rw [if_neg h4] at h2; exact absurd rfl h2
theorem wr_bang {l : Sl Flt} (h : wrNo l = 0) : ¬ bangL l.l = true ∧ wrS l = writeT none (l.l.map pfl) := by
  refine ⟨fun h2 => ?_, if_pos h⟩
  rw [wrNo, if_pos h2] at h; cases h
set_option maxHeartbeats 3200000 in
theorem eText_any (e : Evt) (w : World) (he : e.Ok w) (hP : P10 w) (hT : TzTab w) :
    Calls Tryz.prog 9 #[e.val] w fun en w' => en = .returned (.tuple #[str (textS e), .int .i64 (textNo e)]) ∧ Below w.heap.size w w' := by
  have hta := he.ta.ok.t
  have hcr := he.cr.ok.t
  have htlen := hta.len
  have hclen := hcr.len
  refine enter_args (args := [.agg #[str e.id, .int .i64 e.at_, .int .i64 e.lv, .slice e.fa.A e.fa.q e.fa.c, .slice e.ta.A e.ta.q e.ta.c, .slice e.cr.A e.cr.q e.cr.c, str e.rel, str e.us, .int .i64 e.wt]]) (F := _) Tryz.func9 rfl Tryz.ntmps9 rfl rfl ?_
  intro Rb hRb hRn
  refine tx ?_
  refine S_box 1 1 rfl rfl rfl rfl rfl ?_
  intro b1
  refine sr 2 ?_
  refine sgs ?_
  refine tx ?_
  refine s1 (yA 1 rfl Tryz.underlying26 sz26) ?_
  refine s1 (y_call rfl rfl rfl cf6 (fun _ w hM => Check_any _ w (he.below hM.below))) ?_
  refine sr 1 ?_
  refine sgx ?_
  refine sr 2 ?_
  refine sgo ?_
  refine T_cond rfl ?_ ?_ <;> intro h16
  · try simp only [nrm] at h16
    refine tx ?_
    refine sr 3 ?_
    refine sgo ?_
    refine tr2 hRb fun w hM => ?_
    have h16 : ¬ evNo e = 0 := h16
    have e1 : textNo e = evNo e := fst_a rfl h16
    exact ⟨by rw [textS, e1, if_neg h16], hM.below⟩
  try simp only [nrm] at h16
  have h16 : evNo e = 0 := h16
  have hN := evNo_right he h16
  have hfn : faultsNo e.fa = 0 := (fst_zero (fst_zero h16).2).1
  obtain ⟨hid, hat, hlv, htq, htn, hcq, hcn, hrl, hul, hwt, hfq, hfr⟩ := id hN
  refine kgx ?_
  refine s1 (yF fa26_3) ?_
  refine s1 (yL 1 Tryz.underlying22) ?_
  refine s1 (y_call rfl rfl rfl cf29 (fun _ w1 hM => sWrite_any e.fa w1 (he.fa.below hM.below) hfn (hP.below hM.below) (hT.below hM.below))) ?_
  refine sr 5 ?_
  refine sgs ?_
  refine tx ?_
  refine sr 2 ?_
  refine sgo ?_
  refine T_cond rfl ?_ ?_ <;> intro h25
  · try simp only [nrm] at h25
    refine tx ?_
    refine sr 3 ?_
    refine sgo ?_
    refine tr2 hRb fun w hM => ?_
    have h25 : ¬ wrNo e.fa = 0 := h25
    have e1 := text_wr h16 h25
    exact ⟨by rw [textS, e1, if_neg h25]; rfl, hM.below⟩
  try simp only [nrm] at h25
  have h25 : wrNo e.fa = 0 := h25
  obtain ⟨hbg, hws⟩ := wr_bang h25
  have hi1 := it21 hat
  have hi2 := it21 (n := e.wt) (by omega)
  have hl1 := lvW_le e.lv
  have h4l := hd4T_le hN
  have h5l := hd5T_le hN
  have h6l := hd6T_le hN
  have hdl := hdT_le hN
  have hwl := writeT_le (n := 0) (p := none) hfr
  have htl := flat_le (f := tagT) fun t ht => tagT_le (hN.ta t ht)
  have hcl := flat_le (f := crumbT) fun t ht => crumbT_le (hN.cr t ht)
  have hel : (evT e).length = (hdT e).length + (writeT none (e.fa.l.map pfl)).length := List.length_append
  have hd2 : 2 ≤ (hd4T e).length := by simp only [hd4T, List.length_append, ln2_le]; omega
  have hd3 : 2 ≤ (hdT e).length := by simp only [hdT, hd6T, hd5T, List.length_append]; omega
  have hfl : (hd6T e ++ e.ta.l.flatMap tagT ++ e.cr.l.flatMap crumbT).length + (lnT [kFa]).length = (hdT e).length := List.length_append.symm
  refine kgx ?_
  refine S_alloc 7 7 rfl rfl rfl rfl z73 ?_
  intro b7
  refine S_nilSlice 900 (e := 5) (size := 1) ?_
  refine sgx ?_
  refine s1 (y_makeFunc rfl rfl rfl rfl rfl) ?_
  refine sr 1 ?_
  refine sgx ?_
  refine sr 1 ?_
  refine s1 (yF fa26_0) ?_
  refine s1 (yL 1 Tryz.underlying9) ?_
  refine S_buildSlice 31 31 rfl rfl rfl rfl rfl Tryz.underlying53 inf9 rfl (by decide) (by decide) rfl rfl (by decide) rfl ([kEv, e.id].flatMap strE) ?_ ?_
  · rfl
  intro b31
  refine S_callM 32 [(0, 7), (1, 900), (2, 31)] (X := Option Addr × Nat) rfl rfl rfl rfl rfl rfl rfl cf30 rfl (fun _ => .tuple #[]) (fun _ => True) (fun z0 => [(0, bB b7 (selfP b7) z0.1 z0.2 ([] ++ lnT [kEv, e.id])), (1, bR z0.1 z0.2 ([] ++ lnT [kEv, e.id])), (2, wsI (some ⟨b31, 0, none⟩) 2 [kEv, e.id])]) (fun _ => rfl) (fun _ => rfl) (fun K1 hK1 w1 hM => lineC_any hK1 b7 _ _ _ ([]) _ _ [kEv, e.id] (.inl rfl) (by simp) (by simp only [List.length_append, List.length_nil, ln2_le, ln3_le, ln4_le, List.length_cons]; omega) w1 hM) ?_
  intro x32 hx32
  refine S_keepM [(999, 999)] [(7, bB b7 (selfP b7) x32.1 x32.2 (lnT [kEv, e.id])), (900, bR x32.1 x32.2 (lnT [kEv, e.id])), (1, .blk b1 (IsBox e.enc 26))] (by repeat (first | exact kl_none | refine kl_cons rfl rfl ?_)) ?_
  refine sgx ?_
  refine sr 1 ?_
  refine s1 (yF fa26_1) ?_
  refine s1 (yL 1 Tryz.underlying3) ?_
  refine s1 (y_call rfl rfl rfl cf33 (fun _ w1 hM => Itoa_any _ (by omega) (by omega) w1 (hP.below hM.below))) ?_
  refine S_buildSlice 37 37 rfl rfl rfl rfl rfl Tryz.underlying53 inf9 rfl (by decide) (by decide) rfl rfl (by decide) rfl ([kAt, Lib.itoa e.at_].flatMap strE) ?_ ?_
  · rfl
  intro b37
  refine S_callM 38 [(0, 7), (1, 900), (2, 37)] (X := Option Addr × Nat) rfl rfl rfl rfl rfl rfl rfl cf30 rfl (fun _ => .tuple #[]) (fun _ => True) (fun z0 => [(0, bB b7 (selfP b7) z0.1 z0.2 ((lnT [kEv, e.id]) ++ lnT [kAt, Lib.itoa e.at_])), (1, bR z0.1 z0.2 ((lnT [kEv, e.id]) ++ lnT [kAt, Lib.itoa e.at_])), (2, wsI (some ⟨b37, 0, none⟩) 2 [kAt, Lib.itoa e.at_])]) (fun _ => rfl) (fun _ => rfl) (fun K1 hK1 w1 hM => lineC_any hK1 b7 _ _ _ ((lnT [kEv, e.id])) _ _ [kAt, Lib.itoa e.at_] (.inr rfl) (by simp) (by simp only [List.length_append, List.length_nil, ln2_le, ln3_le, ln4_le, List.length_cons]; omega) w1 hM) ?_
  intro x38 hx38
  refine S_keepM [(999, 999)] [(7, bB b7 (selfP b7) x38.1 x38.2 (lnT [kEv, e.id] ++ lnT [kAt, Lib.itoa e.at_])), (900, bR x38.1 x38.2 (lnT [kEv, e.id] ++ lnT [kAt, Lib.itoa e.at_])), (1, .blk b1 (IsBox e.enc 26))] (by repeat (first | exact kl_none | refine kl_cons rfl rfl ?_)) ?_
  refine sgs ?_
  refine T_perm [0, 2, 3, 4, 1, 5, 6, 7, 8] [true, false, true, true, true, false, false, false, false] [0, 0, 0, 4, 12, 30, 62, 126, 255] [(3, [1])] (by kernel_rfl) (by kernel_rfl) (by kernel_rfl) rfl (by kernel_rfl) ?_
  refine Rf_ 0 39 rfl rfl rfl rfl rfl _ trivial (Y.z (y_move rfl rfl) rfl) ?_
  refine Rf_ 2 41 rfl rfl rfl rfl rfl _ trivial (Y.z (yF fa26_2) rfl) ?_
  refine Rf_ 3 42 rfl rfl rfl rfl rfl _ ⟨rfl, trivial⟩ (Y.z (yL 1 Tryz.underlying3) rfl) ?_
  refine Rf_ 4 43 rfl rfl rfl rfl rfl _ trivial (Y.z (y_bin rfl rfl rfl (fun hg => b_subv ((((e.lv - 1).toNat : Nat) : Int)) (by omega) (by omega))) rfl) ?_
  refine R_chain 1 rfl rfl ?_
  refine S_callOwn 40 40 rfl rfl rfl rfl rfl rfl rfl cf34 (fun A c => .slice A (5) c) 9 1 (5) (levels.flatMap strE) (fun w hM => Levels_any w) ?_
  intro A40 c40
  refine R_next ⟨.inr ⟨rfl, trivial⟩, trivial⟩ ?_
  refine R_chain 5 rfl rfl ?_
  refine s1 (y_indexOwn 40 rfl rfl rfl rfl Tryz.underlying53 sz9 (fun _ => by omega)) ?_
  refine R_next ⟨.inl rfl, trivial⟩ ?_
  refine R_chain 6 rfl rfl ?_
  refine s1 (y_loadO1 40 (val := (fun l : List UInt8 => str l)) rfl rfl rfl rfl (fun _ => lv_at hlv) Tryz.underlying9 rfl) ?_
  refine R_next ⟨.inl rfl, trivial⟩ ?_
  refine R_chain 7 rfl rfl ?_
  refine S_buildSlice 46 46 rfl rfl rfl rfl rfl Tryz.underlying53 inf9 rfl (by decide) (by decide) rfl rfl (by decide) rfl ([kLv, lvW e.lv].flatMap strE) ?_ ?_
  · rfl
  intro b46
  refine R_next ⟨.inl rfl, trivial⟩ ?_
  refine R_chain 8 rfl rfl ?_
  refine S_callM 47 [(0, 7), (1, 900), (2, 46)] (X := Option Addr × Nat) rfl rfl rfl rfl rfl rfl rfl cf30 rfl (fun _ => .tuple #[]) (fun _ => True) (fun z0 => [(0, bB b7 (selfP b7) z0.1 z0.2 ((lnT [kEv, e.id] ++ lnT [kAt, Lib.itoa e.at_]) ++ lnT [kLv, lvW e.lv])), (1, bR z0.1 z0.2 ((lnT [kEv, e.id] ++ lnT [kAt, Lib.itoa e.at_]) ++ lnT [kLv, lvW e.lv])), (2, wsI (some ⟨b46, 0, none⟩) 2 [kLv, lvW e.lv])]) (fun _ => rfl) (fun _ => rfl) (fun K1 hK1 w1 hM => lineC_any hK1 b7 _ _ _ ((lnT [kEv, e.id] ++ lnT [kAt, Lib.itoa e.at_])) _ _ [kLv, lvW e.lv] (.inr rfl) (by simp) (by simp only [List.length_append, List.length_nil, ln2_le, ln3_le, ln4_le, List.length_cons]; omega) w1 hM) ?_
  intro x47 hx47
  refine R_next ⟨.inl rfl, trivial⟩ ?_
  refine R_go (fun _ _ h => h) ?_
  refine tx ?_
  refine sr 1 ?_
  refine s1 (yF fa26_8) ?_
  refine s1 (yL 1 Tryz.underlying3) ?_
  refine s1 (y_call rfl rfl rfl cf33 (fun _ w1 hM => Itoa_any _ (by omega) (by omega) w1 (hP.below hM.below))) ?_
  refine S_buildSlice 52 52 rfl rfl rfl rfl rfl Tryz.underlying53 inf9 rfl (by decide) (by decide) rfl rfl (by decide) rfl ([kWt, Lib.itoa e.wt].flatMap strE) ?_ ?_
  · rfl
  intro b52
  refine S_callM 53 [(0, 7), (1, 900), (2, 52)] (X := Option Addr × Nat) rfl rfl rfl rfl rfl rfl rfl cf30 rfl (fun _ => .tuple #[]) (fun _ => True) (fun z0 => [(0, bB b7 (selfP b7) z0.1 z0.2 ((lnT [kEv, e.id] ++ lnT [kAt, Lib.itoa e.at_] ++ lnT [kLv, lvW e.lv]) ++ lnT [kWt, Lib.itoa e.wt])), (1, bR z0.1 z0.2 ((lnT [kEv, e.id] ++ lnT [kAt, Lib.itoa e.at_] ++ lnT [kLv, lvW e.lv]) ++ lnT [kWt, Lib.itoa e.wt])), (2, wsI (some ⟨b52, 0, none⟩) 2 [kWt, Lib.itoa e.wt])]) (fun _ => rfl) (fun _ => rfl) (fun K1 hK1 w1 hM => lineC_any hK1 b7 _ _ _ ((lnT [kEv, e.id] ++ lnT [kAt, Lib.itoa e.at_] ++ lnT [kLv, lvW e.lv])) _ _ [kWt, Lib.itoa e.wt] (.inr rfl) (by simp) (by simp only [List.length_append, List.length_nil, ln2_le, ln3_le, ln4_le, List.length_cons]; omega) w1 hM) ?_
  intro x53 hx53
  refine S_keepM [(999, 999)] [(7, bB b7 (selfP b7) x53.1 x53.2 (hd4T e)), (900, bR x53.1 x53.2 (hd4T e)), (1, .blk b1 (IsBox e.enc 26))] (by repeat (first | exact kl_none | refine kl_cons rfl rfl ?_)) ?_
  refine sgs ?_
  refine tx ?_
  refine s1 (yF fa26_6) ?_
  refine s1 (yL 1 Tryz.underlying9) ?_
  refine s1 (y_bin rfl rfl rfl (fun _ => b_neqs)) ?_
  refine sgo ?_
  refine T_mid (kf := [(57, 61)]) (kl := [(7, 7), (31, 31), (37, 37), (40, 40), (46, 46), (52, 52), (57, 61), (900, 900)]) (fun y : Option Addr × Nat => []) (fun y : Option Addr × Nat => [(7, bB b7 (selfP b7) y.1 y.2 (hd5T e)), (900, bR y.1 y.2 (hd5T e))]) (by repeat (first | exact kf_nil | (apply kf_in; focus rfl) | (apply kf_out; focus rfl))) (by repeat (first | exact kl_nil | exact kl_rest (by assumption) rfl | (apply kl_in; focus rfl) | (apply kl_out; focus rfl))) ?_ ?_
  · skip
    refine T_cond rfl ?_ ?_ <;> intro h56
    · try simp only [nrm] at h56
      refine T_region ?_
      refine sr 1 ?_
      refine s1 (yF fa26_6) ?_
      refine s1 (yL 1 Tryz.underlying9) ?_
      refine S_buildSlice 60 60 rfl rfl rfl rfl rfl Tryz.underlying53 inf9 rfl (by decide) (by decide) rfl rfl (by decide) rfl ([kRel, e.rel].flatMap strE) ?_ ?_
      · rfl
      intro b60
      refine S_callM 61 [(0, 7), (1, 900), (2, 60)] (X := Option Addr × Nat) rfl rfl rfl rfl rfl rfl rfl cf30 rfl (fun _ => .tuple #[]) (fun _ => True) (fun z0 => [(0, bB b7 (selfP b7) z0.1 z0.2 ((hd4T e) ++ lnT [kRel, e.rel])), (1, bR z0.1 z0.2 ((hd4T e) ++ lnT [kRel, e.rel])), (2, wsI (some ⟨b60, 0, none⟩) 2 [kRel, e.rel])]) (fun _ => rfl) (fun _ => rfl) (fun K1 hK1 w1 hM => lineC_any hK1 b7 _ _ _ ((hd4T e)) _ _ [kRel, e.rel] (.inr rfl) (by simp) (by simp only [List.length_append, List.length_nil, ln2_le, ln3_le, ln4_le, List.length_cons]; omega) w1 hM) ?_
      intro x61 hx61
      refine S_nil (mid_end (kf := [(57, 61)]) (kl := [(7, 7), (31, 31), (37, 37), (40, 40), (46, 46), (52, 52), (57, 61), (900, 900)]) ((x61.1, x61.2)) (by repeat (first | exact kf_nil | (apply kf_in; focus rfl) | (apply kf_out; focus rfl))) (by repeat (first | exact kl_nil | exact kl_rest (by assumption) rfl | (apply kl_in; focus rfl) | (apply kl_out; focus rfl))) ?_ ?_)
      · exact trivial
      · exact ⟨by rw [hd5T, if_neg h56]; rfl, by rw [hd5T, if_neg h56]; rfl, trivial⟩
    try simp only [nrm] at h56
    refine T_skip (mid_end (kf := [(57, 61)]) (kl := [(7, 7), (31, 31), (37, 37), (40, 40), (46, 46), (52, 52), (57, 61), (900, 900)]) ((x53.1, x53.2)) (by repeat (first | exact kf_nil | (apply kf_in; focus rfl) | (apply kf_out; focus rfl))) (by repeat (first | exact kl_nil | exact kl_rest (by assumption) rfl | (apply kl_in; focus rfl) | (apply kl_out; focus rfl))) ?_ ?_)
    · exact trivial
    · exact ⟨by rw [hd5T, if_pos h56, List.append_nil]; rfl, by rw [hd5T, if_pos h56, List.append_nil]; rfl, trivial⟩
  intro y
  refine sgs ?_
  refine tx ?_
  refine s1 (yF fa26_7) ?_
  refine s1 (yL 1 Tryz.underlying9) ?_
  refine s1 (y_bin rfl rfl rfl (fun _ => b_neqs)) ?_
  refine sgo ?_
  refine T_mid (kf := [(65, 69)]) (kl := [(7, 7), (65, 69), (900, 900)]) (fun y2 : Option Addr × Nat => []) (fun y2 : Option Addr × Nat => [(7, bB b7 (selfP b7) y2.1 y2.2 (hd6T e)), (900, bR y2.1 y2.2 (hd6T e))]) (by repeat (first | exact kf_nil | (apply kf_in; focus rfl) | (apply kf_out; focus rfl))) (by repeat (first | exact kl_nil | exact kl_rest (by assumption) rfl | (apply kl_in; focus rfl) | (apply kl_out; focus rfl))) ?_ ?_
  · skip
    refine T_cond rfl ?_ ?_ <;> intro h64
    · try simp only [nrm] at h64
      refine T_region ?_
      refine sr 1 ?_
      refine s1 (yF fa26_7) ?_
      refine s1 (yL 1 Tryz.underlying9) ?_
      refine S_buildSlice 68 68 rfl rfl rfl rfl rfl Tryz.underlying53 inf9 rfl (by decide) (by decide) rfl rfl (by decide) rfl ([kUs, e.us].flatMap strE) ?_ ?_
      · rfl
      intro b68
      refine S_callM 69 [(0, 7), (1, 900), (2, 68)] (X := Option Addr × Nat) rfl rfl rfl rfl rfl rfl rfl cf30 rfl (fun _ => .tuple #[]) (fun _ => True) (fun z0 => [(0, bB b7 (selfP b7) z0.1 z0.2 ((hd5T e) ++ lnT [kUs, e.us])), (1, bR z0.1 z0.2 ((hd5T e) ++ lnT [kUs, e.us])), (2, wsI (some ⟨b68, 0, none⟩) 2 [kUs, e.us])]) (fun _ => rfl) (fun _ => rfl) (fun K1 hK1 w1 hM => lineC_any hK1 b7 _ _ _ ((hd5T e)) _ _ [kUs, e.us] (.inr rfl) (by simp) (by simp only [List.length_append, List.length_nil, ln2_le, ln3_le, ln4_le, List.length_cons]; omega) w1 hM) ?_
      intro x69 hx69
      refine S_nil (mid_end (kf := [(65, 69)]) (kl := [(7, 7), (65, 69), (900, 900)]) ((x69.1, x69.2)) (by repeat (first | exact kf_nil | (apply kf_in; focus rfl) | (apply kf_out; focus rfl))) (by repeat (first | exact kl_nil | exact kl_rest (by assumption) rfl | (apply kl_in; focus rfl) | (apply kl_out; focus rfl))) ?_ ?_)
      · exact trivial
      · exact ⟨by rw [hd6T, if_neg h64]; rfl, by rw [hd6T, if_neg h64]; rfl, trivial⟩
    try simp only [nrm] at h64
    refine T_skip (mid_end (kf := [(65, 69)]) (kl := [(7, 7), (65, 69), (900, 900)]) ((y.1, y.2)) (by repeat (first | exact kf_nil | (apply kf_in; focus rfl) | (apply kf_out; focus rfl))) (by repeat (first | exact kl_nil | exact kl_rest (by assumption) rfl | (apply kl_in; focus rfl) | (apply kl_out; focus rfl))) ?_ ?_)
    · exact trivial
    · exact ⟨by rw [hd6T, if_pos h64, List.append_nil]; rfl, by rw [hd6T, if_pos h64, List.append_nil]; rfl, trivial⟩
  intro y2
  refine sgs ?_
  refine tx ?_
  refine s1 (yF fa26_4) ?_
  refine s1 (yL 1 Tryz.underlying23) ?_
  refine s1 (y_len_slice rfl rfl Tryz.underlying23) ?_
  refine sr 1 ?_
  refine sgo ?_
  refine T_block ?_
  refine lK4 (kf := [(10, 10), (73, 84)]) (kl := [(7, 7), (10, 10), (73, 84), (900, 900)]) (fun (i : Nat) (L : List UInt8) (A : Option Addr) (c : Nat) => [(73, true, .int .i64 (i : Int))]) (fun (i : Nat) (L : List UInt8) (A : Option Addr) (c : Nat) => [(7, bB b7 (selfP b7) A c L), (900, bR A c L)]) (fun (i : Nat) (L : List UInt8) (A : Option Addr) (c : Nat) => i ≤ e.ta.q ∧ L ++ (e.ta.l.drop i).flatMap tagT = hd6T e ++ e.ta.l.flatMap tagT) (fun (i : Nat) (L : List UInt8) (A : Option Addr) (c : Nat) => e.ta.q - i) 0 (hd6T e) y2.1 y2.2 ?_ ?_ ?_ ?_
  · exact ⟨by omega, rfl⟩
  · exact ⟨rfl, trivial⟩
  · exact ⟨rfl, rfl, trivial⟩
  rintro i L A c ⟨hp1, hp2⟩
  refine tx ?_
  refine sr 1 ?_
  refine sgs ?_
  refine T_cond rfl ?_ ?_ <;> intro h74
  · try simp only [nrm] at h74
    obtain ⟨x, hx1, hx2⟩ := hta.at (i := i) (by omega)
    have hxn := htn x (mem_at hx1)
    have hlx := congrArg List.length hp2
    rw [hx2, List.flatMap_cons] at hp2
    simp only [List.length_append] at hlx
    refine kgs ?_
    refine T_block ?_
    refine tx ?_
    refine s1 (y_indexAddr rfl rfl rfl Tryz.underlying23 sz83 (fun hg => hta.isSome (by omega)) (fun _ => by omega)) ?_
    refine s1 (y_loadT rfl rfl hta (fun _ => rfl) (fun _ => hx1) Tryz.underlying83 rfl sz83) ?_
    refine S_alloc 10 10 rfl rfl rfl rfl z83 ?_
    intro b10
    refine S_store 10 rfl rfl rfl rfl rfl rfl sz83 rfl rfl ?_
    refine sgr ?_
    refine sr 1 ?_
    refine s1 (yF fa83_0) ?_
    refine s1 (yL 10 Tryz.underlying9) ?_
    refine s1 (yF fa83_1) ?_
    refine s1 (yL 10 Tryz.underlying9) ?_
    refine S_buildSlice 82 82 rfl rfl rfl rfl rfl Tryz.underlying53 inf9 rfl (by decide) (by decide) rfl rfl (by decide) rfl ([kTg, x.n, x.v].flatMap strE) ?_ ?_
    · rfl
    intro b82
    refine S_callM 83 [(0, 7), (1, 900), (2, 82)] (X := Option Addr × Nat) rfl rfl rfl rfl rfl rfl rfl cf30 rfl (fun _ => .tuple #[]) (fun _ => True) (fun z0 => [(0, bB b7 (selfP b7) z0.1 z0.2 (L ++ lnT [kTg, x.n, x.v])), (1, bR z0.1 z0.2 (L ++ lnT [kTg, x.n, x.v])), (2, wsI (some ⟨b82, 0, none⟩) 3 [kTg, x.n, x.v])]) (fun _ => rfl) (fun _ => rfl) (fun K1 hK1 w1 hM => lineC_any hK1 b7 _ _ _ (L) _ _ [kTg, x.n, x.v] (.inr rfl) (by simp) (by simp only [List.length_append, List.length_nil, ln2_le, ln3_le, ln4_le, List.length_cons]; omega) w1 hM) ?_
    intro x83 hx83
    refine sgr ?_
    refine s1 (y_bin rfl rfl rfl (fun hg => b_add (by omega))) ?_
    refine sr 1 ?_
    refine S_nil (nK4 (kf := [(10, 10), (73, 84)]) (kl := [(7, 7), (10, 10), (73, 84), (900, 900)]) (i + 1) (L ++ tagT x) x83.1 x83.2 ?_ ?_ ?_ ?_)
    · omega
    · exact ⟨by omega, by rw [← hp2, List.append_assoc]⟩
    · exact ⟨rfl, trivial⟩
    · exact ⟨rfl, rfl, trivial⟩
  try simp only [nrm] at h74
  have hL : L = hd6T e ++ e.ta.l.flatMap tagT := by rw [hta.end (by omega)] at hp2; rw [← hp2]; exact (List.append_nil L).symm
  subst hL
  refine egs ?_
  refine tx ?_
  refine s1 (yF fa26_5) ?_
  refine s1 (yL 1 Tryz.underlying24) ?_
  refine s1 (y_len_slice rfl rfl Tryz.underlying24) ?_
  refine sr 1 ?_
  refine sgo ?_
  refine T_block ?_
  refine lK4 (kf := [(12, 12), (88, 102)]) (kl := [(7, 7), (12, 12), (88, 102), (900, 900)]) (fun (i : Nat) (L : List UInt8) (A : Option Addr) (c : Nat) => [(88, true, .int .i64 (i : Int))]) (fun (i : Nat) (L : List UInt8) (A : Option Addr) (c : Nat) => [(7, bB b7 (selfP b7) A c L), (900, bR A c L)]) (fun (i : Nat) (L : List UInt8) (A : Option Addr) (c : Nat) => i ≤ e.cr.q ∧ L ++ (e.cr.l.drop i).flatMap crumbT = hd6T e ++ e.ta.l.flatMap tagT ++ e.cr.l.flatMap crumbT) (fun (i : Nat) (L : List UInt8) (A : Option Addr) (c : Nat) => e.cr.q - i) 0 (hd6T e ++ e.ta.l.flatMap tagT) A c ?_ ?_ ?_ ?_
  · exact ⟨by omega, rfl⟩
  · exact ⟨rfl, trivial⟩
  · exact ⟨rfl, rfl, trivial⟩
  rintro i L A c ⟨hp1, hp2⟩
  refine tx ?_
  refine sr 1 ?_
  refine sgs ?_
  refine T_cond rfl ?_ ?_ <;> intro h89
  · try simp only [nrm] at h89
    obtain ⟨x, hx1, hx2⟩ := hcr.at (i := i) (by omega)
    have hxn := hcn x (mem_at hx1)
    have hi3 := it21 hxn.1
    have hlx := congrArg List.length hp2
    rw [hx2, List.flatMap_cons] at hp2
    simp only [List.length_append] at hlx
    refine kgs ?_
    refine T_block ?_
    refine tx ?_
    refine s1 (y_indexAddr rfl rfl rfl Tryz.underlying24 sz85 (fun hg => hcr.isSome (by omega)) (fun _ => by omega)) ?_
    refine s1 (y_loadT rfl rfl hcr (fun _ => rfl) (fun _ => hx1) Tryz.underlying85 rfl sz85) ?_
    refine S_alloc 12 12 rfl rfl rfl rfl z85 ?_
    intro b12
    refine S_store 12 rfl rfl rfl rfl rfl rfl sz85 rfl rfl ?_
    refine sgo ?_
    refine T_perm [0, 1, 2, 4, 5, 6, 7, 3, 8, 9] [true, true, true, false, true, true, true, true, false, false] [0, 0, 2, 6, 0, 16, 0, 64, 254, 511] [(2, [12]), (5, [12]), (7, [12])] (by kernel_rfl) (by kernel_rfl) (by kernel_rfl) rfl (by kernel_rfl) ?_
    refine Rf_ 0 92 rfl rfl rfl rfl rfl _ trivial (Y.z (y_move rfl rfl) rfl) ?_
    refine Rf_ 1 93 rfl rfl rfl rfl rfl _ trivial (Y.z (yF fa85_0) rfl) ?_
    refine Rf_ 2 94 rfl rfl rfl rfl rfl _ ⟨rfl, trivial⟩ (Y.z (yL 12 Tryz.underlying3) rfl) ?_
    refine Rf_ 4 96 rfl rfl rfl rfl rfl _ trivial (Y.z (yF fa85_1) rfl) ?_
    refine Rf_ 5 97 rfl rfl rfl rfl rfl _ ⟨rfl, trivial⟩ (Y.z (yL 12 Tryz.underlying9) rfl) ?_
    refine Rf_ 6 98 rfl rfl rfl rfl rfl _ trivial (Y.z (yF fa85_2) rfl) ?_
    refine Rf_ 7 99 rfl rfl rfl rfl rfl _ ⟨rfl, trivial⟩ (Y.z (yL 12 Tryz.underlying9) rfl) ?_
    refine R_chain 3 rfl rfl ?_
    refine s1 (y_call rfl rfl rfl cf33 (fun _ w1 hM => Itoa_any _ (by omega) (by omega) w1 (hP.below hM.below))) ?_
    refine R_next ⟨.inl rfl, .inr ⟨rfl, trivial⟩, .inr ⟨rfl, trivial⟩, trivial⟩ ?_
    refine R_chain 8 rfl rfl ?_
    refine S_buildSlice 100 100 rfl rfl rfl rfl rfl Tryz.underlying53 inf9 rfl (by decide) (by decide) rfl rfl (by decide) rfl ([kCr, Lib.itoa x.at_, x.k, x.t].flatMap strE) ?_ ?_
    · rfl
    intro b100
    refine R_next ⟨.inl rfl, .inl rfl, .inl rfl, trivial⟩ ?_
    refine R_chain 9 rfl rfl ?_
    refine S_callM 101 [(0, 7), (1, 900), (2, 100)] (X := Option Addr × Nat) rfl rfl rfl rfl rfl rfl rfl cf30 rfl (fun _ => .tuple #[]) (fun _ => True) (fun z0 => [(0, bB b7 (selfP b7) z0.1 z0.2 (L ++ lnT [kCr, Lib.itoa x.at_, x.k, x.t])), (1, bR z0.1 z0.2 (L ++ lnT [kCr, Lib.itoa x.at_, x.k, x.t])), (2, wsI (some ⟨b100, 0, none⟩) 4 [kCr, Lib.itoa x.at_, x.k, x.t])]) (fun _ => rfl) (fun _ => rfl) (fun K1 hK1 w1 hM => lineC_any hK1 b7 _ _ _ (L) _ _ [kCr, Lib.itoa x.at_, x.k, x.t] (.inr rfl) (by simp) (by simp only [List.length_append, List.length_nil, ln2_le, ln3_le, ln4_le, List.length_cons]; omega) w1 hM) ?_
    intro x101 hx101
    refine R_next ⟨.inl rfl, .inl rfl, .inl rfl, trivial⟩ ?_
    refine R_go (fun _ _ h => h) ?_
    refine T_region ?_
    refine s1 (y_bin rfl rfl rfl (fun hg => b_add (by omega))) ?_
    refine sr 1 ?_
    refine S_nil (nK4 (kf := [(12, 12), (88, 102)]) (kl := [(7, 7), (12, 12), (88, 102), (900, 900)]) (i + 1) (L ++ crumbT x) x101.1 x101.2 ?_ ?_ ?_ ?_)
    · omega
    · exact ⟨by omega, by rw [← hp2, List.append_assoc]⟩
    · exact ⟨rfl, trivial⟩
    · exact ⟨rfl, rfl, trivial⟩
  try simp only [nrm] at h89
  have hL : L = hd6T e ++ e.ta.l.flatMap tagT ++ e.cr.l.flatMap crumbT := by rw [hcr.end (by omega)] at hp2; rw [← hp2]; exact (List.append_nil L).symm
  subst hL
  refine egx ?_
  refine sr 1 ?_
  refine S_buildSlice 104 104 rfl rfl rfl rfl rfl Tryz.underlying53 inf9 rfl (by decide) (by decide) rfl rfl (by decide) rfl ([kFa].flatMap strE) ?_ ?_
  · rfl
  intro b104
  refine S_callM 105 [(0, 7), (1, 900), (2, 104)] (X := Option Addr × Nat) rfl rfl rfl rfl rfl rfl rfl cf30 rfl (fun _ => .tuple #[]) (fun _ => True) (fun z0 => [(0, bB b7 (selfP b7) z0.1 z0.2 ((hd6T e ++ e.ta.l.flatMap tagT ++ e.cr.l.flatMap crumbT) ++ lnT [kFa])), (1, bR z0.1 z0.2 ((hd6T e ++ e.ta.l.flatMap tagT ++ e.cr.l.flatMap crumbT) ++ lnT [kFa])), (2, wsI (some ⟨b104, 0, none⟩) 1 [kFa])]) (fun _ => rfl) (fun _ => rfl) (fun K1 hK1 w1 hM => lineC_any hK1 b7 _ _ _ ((hd6T e ++ e.ta.l.flatMap tagT ++ e.cr.l.flatMap crumbT)) _ _ [kFa] (.inr rfl) (by simp) (by exact Nat.le_trans (Nat.le_of_eq hfl) (by omega)) w1 hM) ?_
  intro x105 hx105
  refine sgx ?_
  refine s1 (y_as (v' := str (writeT none (e.fa.l.map pfl))) (by exact congrArg str hws) (y_move rfl rfl)) ?_
  refine S_callM 107 [(0, 7), (1, 900)] (X := Option Addr × Nat) rfl rfl rfl rfl rfl rfl rfl cf31 rfl (fun _ => .tuple #[.int .i64 ((writeT none (e.fa.l.map pfl))).length, .nilIface]) (fun _ => True) (fun z0 => [(0, bB b7 (selfP b7) z0.1 z0.2 ((hdT e) ++ (writeT none (e.fa.l.map pfl)))), (1, bR z0.1 z0.2 ((hdT e) ++ (writeT none (e.fa.l.map pfl))))]) (fun _ => rfl) (fun _ => rfl) (fun K1 hK1 w hM => (WStr_any hK1 b7 _ _ _ ((hdT e)) ((writeT none (e.fa.l.map pfl))) (.inr rfl) (by omega) w hM).mono fun e w1 h => h.elim fun x h => ⟨x, h.1, trivial, h.2.2⟩) ?_
  intro x107 hx107
  refine sgs ?_
  refine tx ?_
  refine s1 (y_call rfl rfl rfl cf35 (fun _ w1 hM => BLen_any b7 x107.1 (evT e).length x107.2 w1 (hM.box_cell (i := 7) rfl rfl))) ?_
  refine sr 1 ?_
  refine sgo ?_
  refine T_cond rfl ?_ ?_ <;> intro h109
  · try simp only [nrm] at h109
    refine tx ?_
    refine sr 2 ?_
    refine sgo ?_
    refine tr2 hRb fun w hM => ?_
    have e1 : textNo e = 4 := fst_b h16 (by rw [if_neg hbg, if_pos (by omega)])
    exact ⟨by rw [textS, e1]; rfl, hM.below⟩
  try simp only [nrm] at h109
  refine kgx ?_
  refine S_callM 110 [(0, 7), (1, 900)] (X := Unit) rfl rfl rfl rfl rfl rfl rfl cf36 rfl (fun _ => str ((evT e))) (fun _ => True) (fun _ => [(1, bR none 0 []), (0, bB b7 (selfP b7) x107.1 x107.2 ((evT e)))]) (fun _ => rfl) (fun _ => rfl) (fun K1 hK1 w hM => (BStr_any hK1 b7 _ _ _ ((evT e)) (by omega) (by omega) w hM).mono fun e w1 h => ⟨(), h.1, trivial, h.2⟩) ?_
  intro _ _
  refine sr 2 ?_
  refine sgo ?_
  refine tr2 hRb fun w hM => ?_
  have e1 : textNo e = 0 := fst_b h16 (by rw [if_neg hbg, if_neg (by omega)])
  exact ⟨by rw [textS, e1]; rfl, hM.below⟩
end Go.Proofs.YtgbldojgbpgjbaaGreatDoor
end
section
namespace Go.Proofs.YtgbldojgbpgjbaaGreatDoor
set_option linter.unusedSimpArgs false
set_option linter.unusedVariables false
set_option maxRecDepth 20000
open Go.RowKit Go.Eng
def headR (k t : List UInt8) : List UInt8 := if t = [] then k ++ [58] else k ++ [58, 32] ++ t
theorem headR_nl (k t : List UInt8) : headR k t ++ [10] = headT k t := by
  unfold headR headT
  split <;> simp
def lnW (x : Frm) : List UInt8 := if x.ln = 0 then [] else 58 :: Lib.itoa x.ln
def fileW (x : Frm) : List (List UInt8) := if x.fi = [] then [] else [[40] ++ x.fi ++ lnW x ++ [41]]
def addrW (x : Frm) : List (List UInt8) := if x.ad = -1 then [] else [[64] ++ hexA x.ad.toNat []]
def ownW (x : Frm) : List (List UInt8) := if x.own = true then [[42]] else []
end Go.Proofs.YtgbldojgbpgjbaaGreatDoor
end
section
namespace Go.Proofs.YtgbldojgbpgjbaaGreatDoor
set_option linter.unusedSimpArgs false
set_option linter.unusedVariables false
set_option maxRecDepth 20000
open Go.RowKit Go.Eng
end Go.Proofs.YtgbldojgbpgjbaaGreatDoor
end
section
namespace Go.Proofs.YtgbldojgbpgjbaaGreatDoor
set_option linter.unusedSimpArgs false
set_option linter.unusedVariables false
set_option maxRecDepth 20000
open Go.RowKit Go.Eng
end Go.Proofs.YtgbldojgbpgjbaaGreatDoor
end
section
namespace Go.Proofs.YtgbldojgbpgjbaaGreatDoor
set_option linter.unusedSimpArgs false
set_option linter.unusedVariables false
set_option maxRecDepth 20000
open Go.RowKit Go.Eng
abbrev faB : List UInt8 := [102, 97, 117, 108, 116, 115]
theorem cut_fa : cutC 32 faB = (faB, [], false) := by decide
end Go.Proofs.YtgbldojgbpgjbaaGreatDoor
end
section
namespace Go.Proofs.YtgbldojgbpgjbaaGreatDoor
set_option linter.unusedSimpArgs false
set_option linter.unusedVariables false
set_option maxRecDepth 20000
open Go.RowKit Go.Eng
theorem split_cut (c : UInt8) (s : List UInt8) : splitC c s = if (cutC c s).2.2 = true then (cutC c s).1 :: splitC c (cutC c s).2.1 else [s] := by
  by_cases h : Lib.indexByte s c < 0
  · have hix : Lib.indexByte s c = -1 := by have := Lib.indexByte_ge s c; omega
    rw [cutC, if_pos h, if_neg (by simp)]
    exact splitC_none c s (Lib.indexByte_none hix)
  · rw [cutC, if_neg h, if_pos rfl]
    obtain ⟨o, ho⟩ : ∃ o : Nat, Lib.indexByte s c = o := ⟨(Lib.indexByte s c).toNat, by omega⟩
    obtain ⟨ho1, ho2⟩ := Lib.indexByte_some ho
    rw [ho]
    exact splitC_some c s o ho1 ho2
end Go.Proofs.YtgbldojgbpgjbaaGreatDoor
end
section
namespace Go.Proofs.YtgbldojgbpgjbaaGreatDoor
set_option linter.unusedSimpArgs false
set_option linter.unusedVariables false
set_option maxRecDepth 20000
open Go.RowKit Go.Eng
/-! ### Splitting -/
theorem split_no {c : UInt8} : ∀ {s : List UInt8}, c ∉ s → splitC c s = [s]
  | [], _ => rfl
  | x :: r, h => by
    simp only [List.mem_cons, not_or] at h
    rw [splitC, if_neg (fun e => h.1 e.symm), split_no h.2]
theorem split_at {c : UInt8} : ∀ {a b : List UInt8}, c ∉ a → splitC c (a ++ c :: b) = a :: splitC c b
  | [], b, _ => by rw [List.nil_append, splitC, if_pos rfl]
  | x :: r, b, h => by
    simp only [List.mem_cons, not_or] at h
    rw [List.cons_append, splitC, if_neg (fun e => h.1 e.symm), split_at h.2]
theorem split_words {c : UInt8} : ∀ {a : List UInt8} {ws : List (List UInt8)}, c ∉ a → (∀ w ∈ ws, c ∉ w) → splitC c (a ++ ws.flatMap (fun w => c :: w)) = a :: ws
  | a, [], h, _ => by rw [List.flatMap_nil, List.append_nil]; exact split_no h
  | a, w :: r, h, hs => by
    rw [List.flatMap_cons, List.cons_append, split_at h]
    rw [split_words (hs w (List.mem_cons_self ..)) fun v hv => hs v (List.mem_cons_of_mem _ hv)]
theorem split_lines {c : UInt8} : ∀ {ls : List (List UInt8)}, (∀ l ∈ ls, c ∉ l) → splitC c (ls.flatMap fun l => l ++ [c]) = ls ++ [[]]
  | [], _ => rfl
  | l :: r, h => by
    rw [List.flatMap_cons, List.append_assoc]
    rw [show [c] ++ r.flatMap (fun l => l ++ [c]) = c :: r.flatMap (fun l => l ++ [c]) from rfl, split_at (h l (List.mem_cons_self ..)), split_lines fun v hv => h v (List.mem_cons_of_mem _ hv)]
    rfl
theorem cut_at {c : UInt8} {a b : List UInt8} (h : c ∉ a) : cutC c (a ++ c :: b) = (a, b, true) := by
  have h1 := split_cut c (a ++ c :: b)
  rw [split_at h] at h1
  have hix : 0 ≤ Lib.indexByte (a ++ c :: b) c := by
    have h2 := Lib.contains_iff_indexByte (a ++ c :: b) c
    have h3 : (a ++ c :: b).contains c = true := by simp
    rw [h3] at h2
    exact of_decide_eq_true h2.symm
  obtain ⟨o, ho⟩ : ∃ o : Nat, Lib.indexByte (a ++ c :: b) c = o := ⟨(Lib.indexByte (a ++ c :: b) c).toNat, by omega⟩
  obtain ⟨ho1, ho2⟩ := Lib.indexByte_some ho
  have hoa : o = a.length := by
    rcases Nat.lt_trichotomy o a.length with h4 | h4 | h4
    · rw [List.getElem?_append_left h4] at ho1
      exact absurd (List.mem_of_getElem? ho1) h
    · exact h4
    · exact absurd (by rw [List.getElem?_append_right (Nat.le_refl _), Nat.sub_self]; rfl) (ho2 a.length h4)
  rw [cutC, if_neg (by omega), ho, Int.toNat_natCast, hoa]
  rw [List.take_left, List.drop_append, List.drop_of_length_le (by omega)]
  simp
theorem cut_none {c : UInt8} {a : List UInt8} (h : c ∉ a) : cutC c a = (a, [], false) := by
  rw [cutC, if_pos]
  have h2 := Lib.contains_iff_indexByte a c
  have h3 : a.contains c = false := by simpa using h
  rw [h3] at h2
  have := of_decide_eq_false h2.symm
  omega
/-! ### Numbers -/
theorem val10 : ∀ s : List UInt8, (∀ c ∈ s, 48 ≤ c.toNat ∧ c.toNat ≤ 57) → ∀ n, s.foldl (fun n c => n * 10 + hexV c) n = s.foldl (fun n c => n * 10 + (c.toNat - 48)) n
  | [], _, _ => rfl
  | a :: r, h, n => by
    have h1 := (h a (List.mem_cons_self ..)).2
    rw [List.foldl_cons, List.foldl_cons, hexV, if_pos h1]
    exact val10 r (fun c hc => h c (List.mem_cons_of_mem _ hc)) _
theorem ofNat_digT {n : Nat} (h : n < 10) : (UInt8.ofNat (48 + n)).toNat = 48 + n := by simp; omega
theorem val_decT (u : Nat) : valD (Lib.decDigits u) = u ∧ Lib.decDigits u ≠ [] ∧ (∀ c ∈ Lib.decDigits u, 48 ≤ c.toNat ∧ c.toNat ≤ 57) ∧ (10 ≤ u → ((Lib.decDigits u).getD 0 0).toNat ≠ 48) ∧ (u < 10 → Lib.decDigits u = [UInt8.ofNat (48 + u)]) := by
  induction u using Nat.strongRecOn with
  | ind u ih =>
    by_cases hu : u < 10
    · have e : Lib.decDigits u = [UInt8.ofNat (48 + u)] := by rw [Lib.decDigits, dif_pos hu]
      have e2 := ofNat_digT hu
      rw [e]
      refine ⟨?_, by simp, fun c hc => ?_, fun h => by omega, fun _ => rfl⟩
      · show 0 * 10 + ((UInt8.ofNat (48 + u)).toNat - 48) = u
        rw [e2]; omega
      · rw [List.mem_singleton.1 hc, e2]; omega
    · obtain ⟨i1, i2, i3, i4, i5⟩ := ih (u / 10) (by omega)
      have e : Lib.decDigits u = Lib.decDigits (u / 10) ++ [UInt8.ofNat (48 + u % 10)] := by rw [Lib.decDigits, dif_neg hu]
      have e2 := ofNat_digT (Nat.mod_lt u (show 0 < 10 by decide))
      rw [e]
      refine ⟨?_, by simp, fun c hc => ?_, fun _ => ?_, fun h => absurd h hu⟩
      · rw [valD_snoc, i1, e2]; omega
      · rcases List.mem_append.1 hc with h | h
        · exact i3 c h
        · rw [List.mem_singleton.1 h, e2]; omega
      · have h0 : (Lib.decDigits (u / 10) ++ [UInt8.ofNat (48 + u % 10)]).getD 0 0 = (Lib.decDigits (u / 10)).getD 0 0 := by
          cases hq : Lib.decDigits (u / 10) with
          | nil => exact absurd hq i2
          | cons x r => rfl
        rw [h0]
        by_cases h1 : u / 10 < 10
        · rw [i5 h1]
          show (UInt8.ofNat (48 + u / 10)).toNat ≠ 48
          rw [ofNat_digT h1]; omega
        · exact i4 (by omega)
theorem dec_lenT : ∀ (k u : Nat), u < 10 ^ (k + 1) → (Lib.decDigits u).length ≤ k + 1
  | 0, u, h => by rw [(val_decT u).2.2.2.2 (by omega)]; exact Nat.le_refl _
  | k + 1, u, h => by
    by_cases hu : u < 10
    · rw [(val_decT u).2.2.2.2 hu]; simp
    · rw [Lib.decDigits, dif_neg hu, List.length_append]
      have := dec_lenT k (u / 10) (by rw [Nat.div_lt_iff_lt_mul (by decide)]; rw [Nat.pow_succ] at h; exact h)
      simp only [List.length_cons, List.length_nil]; omega
theorem itoa_natT (n : Nat) : Lib.itoa (n : Int) = Lib.decDigits n := by
  unfold Lib.itoa
  rw [if_neg (by omega), Int.toNat_natCast]
theorem zero_dec {u : Nat} (h : 1 < (Lib.decDigits u).length) : ((Lib.decDigits u).getD 0 0).toNat ≠ 48 := by
  by_cases hu : u < 10
  · rw [(val_decT u).2.2.2.2 hu] at h; simp at h
  · exact (val_decT u).2.2.2.1 (by omega)
theorem num10 {k n : Nat} (hn : n < 10 ^ (k + 1)) : numB 10 (k + 1) (Lib.itoa (n : Int)) = some n := by
  rw [itoa_natT]
  obtain ⟨h1, h2, h3, _, _⟩ := val_decT n
  have hl := dec_lenT k n hn
  have hv : valB 10 (Lib.decDigits n) = n := by
    rw [valB, val10 _ h3]; exact h1
  rw [numB, if_pos, hv]
  simp only [numH, Bool.and_eq_true, Bool.not_eq_true', Bool.and_eq_false_iff, decide_eq_true_eq, decide_eq_false_iff_not, List.all_eq_true]
  refine ⟨⟨⟨h2, hl⟩, ?_⟩, fun c hc => ?_⟩
  · by_cases hlen : 1 < (Lib.decDigits n).length
    · exact .inr fun e => zero_dec hlen (by rw [e]; rfl)
    · exact .inl hlen
  · obtain ⟨a, b⟩ := h3 c hc
    simp [digOk, a, b]
theorem plain_itoa {k n : Nat} (hn : n < 10 ^ (k + 1)) : plainOk (Lib.itoa (n : Int)) (k + 1) = true ∧ plainJ (Lib.itoa (n : Int)) (k + 1) = n := by
  rw [itoa_natT]
  obtain ⟨h1, h2, h3, _, _⟩ := val_decT n
  have hl := dec_lenT k n hn
  have ho : plainOk (Lib.decDigits n) (k + 1) = true := by
    simp only [plainOk, Bool.not_eq_true', Bool.or_eq_false_iff, Bool.and_eq_false_iff, Bool.not_eq_false', decide_eq_false_iff_not, decide_eq_true_eq]
    refine ⟨⟨⟨h2, by omega⟩, ?_⟩, trimS_allN fun c hc => ?_⟩
    · by_cases hlen : 1 < (Lib.decDigits n).length
      · exact .inr fun e => zero_dec hlen (by omega)
      · exact .inl (by omega)
    · rw [dig10]
      obtain ⟨a, b⟩ := h3 c hc
      simp [digOk, a, b]
  exact ⟨ho, by rw [plainJ, if_pos ho]; exact h1⟩
theorem dig_hex : ∀ n : Fin 16, digOk 16 (dig n.val) = true ∧ hexV (dig n.val) = n.val ∧ (0 < n.val → dig n.val ≠ 48) := by decide
theorem hex_val : ∀ (u : Nat) (acc : List UInt8), (hexA u acc).foldl (fun n c => n * 16 + hexV c) 0 = acc.foldl (fun n c => n * 16 + hexV c) u := by
  intro u
  induction u using Nat.strongRecOn with
  | ind u ih =>
    intro acc
    by_cases hu : u < 16
    · rw [hexA_end hu, List.foldl_cons]
      have := (dig_hex ⟨u, hu⟩).2.1
      simp only at this
      rw [this, Nat.zero_mul, Nat.zero_add]
    · rw [hexA_next hu, ih (u / 16) (by omega), List.foldl_cons]
      have := (dig_hex ⟨u % 16, Nat.mod_lt u (by decide)⟩).2.1
      simp only at this
      rw [this]; congr 1; omega
theorem hex_all : ∀ (u : Nat) (acc : List UInt8), (∀ c ∈ acc, digOk 16 c = true) → (∀ c ∈ hexA u acc, digOk 16 c = true) ∧ hexA u acc ≠ [] ∧ (0 < u → (hexA u acc).getD 0 0 ≠ 48) ∧ (u < 16 → hexA u acc = dig u :: acc) := by
  intro u
  induction u using Nat.strongRecOn with
  | ind u ih =>
    intro acc ha
    by_cases hu : u < 16
    · rw [hexA_end hu]
      have h1 := dig_hex ⟨u, hu⟩
      simp only at h1
      refine ⟨fun c hc => ?_, by simp, fun h => h1.2.2 h, fun _ => rfl⟩
      rcases List.mem_cons.1 hc with rfl | h
      · exact h1.1
      · exact ha c h
    · rw [hexA_next hu]
      have h1 := dig_hex ⟨u % 16, Nat.mod_lt u (by decide)⟩
      simp only at h1
      have h2 := ih (u / 16) (by omega) (dig (u % 16) :: acc) fun c hc => by
        rcases List.mem_cons.1 hc with rfl | h
        · exact h1.1
        · exact ha c h
      exact ⟨h2.1, h2.2.1, fun _ => h2.2.2.1 (by omega), fun h => absurd h hu⟩
theorem hex_lenT : ∀ (k u : Nat) (acc : List UInt8), u < 16 ^ (k + 1) → (hexA u acc).length ≤ acc.length + k + 1
  | 0, u, acc, h => by rw [hexA_end (by omega), List.length_cons]; omega
  | k + 1, u, acc, h => by
    by_cases hu : u < 16
    · rw [hexA_end hu, List.length_cons]; omega
    · rw [hexA_next hu]
      have := hex_lenT k (u / 16) (dig (u % 16) :: acc) (by rw [Nat.div_lt_iff_lt_mul (by decide)]; rw [Nat.pow_succ] at h; exact h)
      rw [List.length_cons] at this; omega
theorem num16 {n : Nat} (hn : n < 281474976710656) : numB 16 12 (hexA n []) = some n := by
  obtain ⟨h1, h2, h3, h4⟩ := hex_all n [] (fun _ h => (by cases h))
  have hl := hex_lenT 11 n [] (by show n < 16 ^ 12; omega)
  rw [List.length_nil] at hl
  have hv : valB 16 (hexA n []) = n := hex_val n []
  rw [numB, if_pos, hv]
  simp only [numH, Bool.and_eq_true, Bool.not_eq_true', Bool.and_eq_false_iff, decide_eq_true_eq, decide_eq_false_iff_not, List.all_eq_true]
  refine ⟨⟨⟨h2, by omega⟩, ?_⟩, h1⟩
  by_cases h0 : n < 16
  · rw [h4 h0]; exact .inl (by simp)
  · exact .inr (h3 (by omega))
end Go.Proofs.YtgbldojgbpgjbaaGreatDoor
end
section
namespace Go.Proofs.YtgbldojgbpgjbaaGreatDoor
set_option linter.unusedSimpArgs false
set_option linter.unusedVariables false
set_option maxRecDepth 20000
open Go.RowKit Go.Eng
/-- a frame that Check finds right, without the sign that Text bars -/
structure RtF (x : Frm) : Prop where
  f : x.f ≠ []
  wf : wordOk marksB x.f = true
  wm : wordOk marksB x.m = true
  wi : wordOk marks x.fi = true
  ln : 0 ≤ x.ln ∧ x.ln ≤ 9999999
  ad : -1 ≤ x.ad ∧ x.ad ≤ 281474976710655
  file : x.ln ≠ 0 → x.fi ≠ []
theorem word_not {wo s : List UInt8} {c : UInt8} (h : wordOk wo s = true) (hc : byteBad wo c = true) : c ∉ s := fun hm => by
  have h1 : s.any (byteBad wo) = true := List.any_eq_true.2 ⟨c, hm, hc⟩
  rw [wordOk, h1] at h; cases h
theorem call_parts {x : Frm} (h : RtF x) : callM (callT x) = (x.m, x.f) ∧ callOk (callT x) = true ∧ (32 : UInt8) ∉ callT x := by
  have hf33 := word_not h.wf (c := 33) (by decide)
  have hm33 := word_not h.wm (c := 33) (by decide)
  have hf32 := word_not h.wf (c := 32) (by decide)
  have hm32 := word_not h.wm (c := 32) (by decide)
  by_cases hm : x.m = []
  · have hc : callT x = x.f := if_pos hm
    have hcut := cut_none hf33
    have hM : callM x.f = ([], x.f) := by rw [callM, hcut]; rfl
    rw [hc, hM, hm]
    refine ⟨rfl, ?_, hf32⟩
    rw [callOk, hM, hcut, decide_eq_false h.f, h.wf]; rfl
  · have hc : callT x = x.m ++ 33 :: x.f := by rw [callT, if_neg hm, List.append_assoc]; rfl
    have hcut := cut_at (b := x.f) hm33
    have hM : callM (x.m ++ 33 :: x.f) = (x.m, x.f) := by rw [callM, hcut]; rfl
    rw [hc, hM]
    refine ⟨rfl, ?_, ?_⟩
    · rw [callOk, hM, hcut, decide_eq_false h.f, h.wf, h.wm, decide_eq_false hm]; rfl
    · simp only [List.mem_append, List.mem_cons, not_or]
      exact ⟨hm32, by decide, hf32⟩
theorem place_words (x : Frm) : placeT x = (fileW x ++ addrW x ++ ownW x).flatMap fun w => 32 :: w := by
  unfold placeT fileT addrT fileW addrW ownW lnW
  by_cases h1 : x.fi = [] <;> by_cases h2 : x.ad = -1 <;> by_cases h3 : x.own = true <;> simp [h1, h2, h3]
theorem itoa_digs {n : Int} (h : 0 ≤ n) : ∀ c ∈ Lib.itoa n, 48 ≤ c.toNat ∧ c.toNat ≤ 57 := by
  obtain ⟨k, rfl⟩ : ∃ k : Nat, n = (k : Int) := ⟨n.toNat, by omega⟩
  rw [itoa_natT]; exact (val_decT k).2.2.1
theorem hex_low {c : UInt8} (h : digOk 16 c = true) : 48 ≤ c.toNat := by
  simp only [digOk, Bool.or_eq_true, Bool.and_eq_true, decide_eq_true_eq] at h
  rcases h with h | h <;> omega
theorem hex_ne {d : UInt8} (hd : d.toNat < 48) (u : Nat) : d ∉ hexA u [] := fun hm => by
  have := hex_low ((hex_all u [] (fun _ h => (by cases h))).1 d hm)
  omega
theorem lnW_not {x : Frm} (h : 0 ≤ x.ln) {d : UInt8} (hd : d.toNat < 48) : d ∉ lnW x := fun hm => by
  unfold lnW at hm
  split at hm
  · cases hm
  · rcases List.mem_cons.1 hm with rfl | hm
    · exact absurd hd (by decide)
    · have := itoa_digs h d hm; omega
theorem words_no {x : Frm} (h : RtF x) {d : UInt8} (hd : d.toNat < 33) : ∀ w ∈ fileW x ++ addrW x ++ ownW x, d ∉ w := by
  have hbad : byteBad marks d = true := by
    simp only [byteBad, Bool.or_eq_true, decide_eq_true_eq]; exact .inl (.inl (by omega))
  intro w hw
  rcases List.mem_append.1 hw with hw | hw
  · rcases List.mem_append.1 hw with hw | hw
    · unfold fileW at hw
      split at hw
      · cases hw
      · rw [List.mem_singleton.1 hw]
        simp only [List.mem_append, List.mem_singleton, not_or]
        exact ⟨⟨⟨fun e => by subst e; exact absurd hd (by decide), word_not h.wi hbad⟩, lnW_not h.ln.1 (by omega)⟩, fun e => by subst e; exact absurd hd (by decide)⟩
    · unfold addrW at hw
      split at hw
      · cases hw
      · rw [List.mem_singleton.1 hw]
        simp only [List.mem_append, List.mem_singleton, not_or]
        exact ⟨fun e => by subst e; exact absurd hd (by decide), hex_ne (by omega) _⟩
  · unfold ownW at hw
    split at hw
    · rw [List.mem_singleton.1 hw, List.mem_singleton]
      exact fun e => by subst e; exact absurd hd (by decide)
    · cases hw
theorem file_back {x : Frm} (h : RtF x) (hfi : x.fi ≠ []) : fileQ ([40] ++ x.fi ++ lnW x ++ [41]) = some (x.fi, x.ln.toNat) := by
  have h58 := word_not h.wi (c := 58) (by decide)
  have hd : ([40] ++ x.fi ++ lnW x ++ [41]).drop 1 = x.fi ++ lnW x ++ [41] := rfl
  have hs : Lib.hasSuffix (([40] ++ x.fi ++ lnW x ++ [41]).drop 1) [41] = true := by
    rw [hd, Lib.hasSuffix, List.isSuffixOf_iff_suffix]; exact List.suffix_append _ _
  have ht : Lib.trimSuffix (([40] ++ x.fi ++ lnW x ++ [41]).drop 1) [41] = x.fi ++ lnW x := by
    rw [trimS_of hs, hd, List.length_append, List.length_singleton, Nat.add_sub_cancel, List.take_left]
  have hp : prL ([40] ++ x.fi ++ lnW x ++ [41]) = if x.ln = 0 then (x.fi, [], false) else (x.fi, Lib.itoa x.ln, true) := by
    show cutC 58 (Lib.trimSuffix (([40] ++ x.fi ++ lnW x ++ [41]).drop 1) [41]) = _
    rw [ht, lnW]
    split
    · rw [List.append_nil]; exact cut_none h58
    · exact cut_at h58
  by_cases h0 : x.ln = 0
  · rw [if_pos h0] at hp
    rw [fileQ_yes hs (by rw [hp]; exact hfi) (by rw [hp]; exact h.wi), hp, h0]; rfl
  · rw [if_neg h0] at hp
    obtain ⟨n, hn⟩ : ∃ n : Nat, x.ln = ((n + 1 : Nat) : Int) := ⟨x.ln.toNat - 1, by have := h.ln; omega⟩
    rw [fileQ_yes hs (by rw [hp]; exact hfi) (by rw [hp]; exact h.wi), hp]
    have hnum := num10 (k := 6) (n := n + 1) (by have := h.ln; show n + 1 < 10 ^ 7; omega)
    rw [hn]
    show (match numB 10 7 (Lib.itoa ((n + 1 : Nat) : Int)) with | some (n + 1) => some (x.fi, n + 1) | _ => none) = _
    rw [hnum]; rfl
theorem plC_own (fi : List UInt8) (ln : Nat) (ad : Int) (x : Frm) : plC fi ln ad (ownW x) = some ⟨fi, ln, ad, x.own⟩ := by
  unfold ownW
  cases x.own with
  | true => rfl
  | false => rfl
theorem plB_back {x : Frm} (h : RtF x) (fi : List UInt8) (ln : Nat) : plB fi ln (addrW x ++ ownW x) = some ⟨fi, ln, x.ad, x.own⟩ := by
  unfold addrW
  by_cases h0 : x.ad = -1
  · rw [if_pos h0, List.nil_append, h0]
    rw [plB_no, plC_own]
    intro _
    unfold ownW
    split <;> rfl
  · rw [if_neg h0]
    obtain ⟨n, hn⟩ : ∃ n : Nat, x.ad = (n : Int) := ⟨x.ad.toNat, by have := h.ad; omega⟩
    rw [hn, Int.toNat_natCast]
    show plB fi ln (([64] ++ hexA n []) :: ownW x) = _
    have h16 := num16 (n := n) (by have := h.ad; omega)
    rw [plB, if_pos (show Lib.hasPrefix ([64] ++ hexA n []) [64] = true from by simp [Lib.hasPrefix, List.isPrefixOf])]
    show (match numB 16 12 (hexA n []) with | some n => plC fi ln (n : Int) (ownW x) | none => none) = _
    rw [h16]; exact plC_own ..
theorem place_back {x : Frm} (h : RtF x) : placeQ (fileW x ++ addrW x ++ ownW x) = some ⟨x.fi, x.ln.toNat, x.ad, x.own⟩ := by
  rw [List.append_assoc]
  unfold fileW
  by_cases hfi : x.fi = []
  · have hln : x.ln = 0 := by
      by_cases e : x.ln = 0
      · exact e
      · exact absurd hfi (h.file e)
    rw [if_pos hfi, List.nil_append, hfi, hln]
    rw [placeQ_no, plB_back h]; rfl
    intro hl
    unfold addrW ownW at hl ⊢
    by_cases h1 : x.ad = -1 <;> by_cases h2 : x.own = true <;> simp [h1, h2] at hl ⊢ <;> rfl
  · rw [if_neg hfi]
    show placeQ (([40] ++ x.fi ++ lnW x ++ [41]) :: (addrW x ++ ownW x)) = _
    rw [placeQ, if_pos (show Lib.hasPrefix ([40] ++ x.fi ++ lnW x ++ [41]) [40] = true from by simp [Lib.hasPrefix, List.isPrefixOf]), file_back h hfi]
    exact plB_back h x.fi x.ln.toNat
def lnF (x : Frm) : List UInt8 := atB ++ (callT x ++ placeT x)
theorem frame_back {x : Frm} (h : RtF x) : frameQ (callT x ++ placeT x) = some x := by
  obtain ⟨h1, h2, h3⟩ := call_parts h
  have hs : splitC 32 (callT x ++ placeT x) = callT x :: (fileW x ++ addrW x ++ ownW x) := by
    rw [place_words]; exact split_words h3 (words_no h (by decide))
  rw [frameQ, hs]
  show (if callOk (callT x) = true then (placeQ (fileW x ++ addrW x ++ ownW x)).map fun p => (⟨(callM (callT x)).1, (callM (callT x)).2, p.fi, (p.ln : Int), p.ad, p.own⟩ : Frm) else none) = _
  rw [if_pos h2, place_back h, h1]
  have hln : ((x.ln.toNat : Nat) : Int) = x.ln := by have := h.ln; omega
  show some (⟨x.m, x.f, x.fi, ((x.ln.toNat : Nat) : Int), x.ad, x.own⟩ : Frm) = some x
  rw [hln]
theorem word_nl {wo s : List UInt8} (h : wordOk wo s = true) : (10 : UInt8) ∉ s := word_not h (by simp [byteBad])
theorem lnF_nl {x : Frm} (h : RtF x) : (10 : UInt8) ∉ lnF x := by
  have h1 : (10 : UInt8) ∉ callT x := by
    unfold callT
    split
    · exact word_nl h.wf
    · simp only [List.mem_append, List.mem_singleton, not_or]
      exact ⟨⟨word_nl h.wm, by decide⟩, word_nl h.wf⟩
  have h2 : (10 : UInt8) ∉ placeT x := by
    rw [place_words]
    intro hm
    obtain ⟨w, hw, hc⟩ := List.mem_flatMap.1 hm
    rcases List.mem_cons.1 hc with e | e
    · exact absurd e (by decide)
    · exact words_no h (by decide) w hw e
  unfold lnF
  simp only [List.mem_append, not_or]
  exact ⟨by decide, h1, h2⟩
/-! ### The line of a fault -/
theorem head_back {k t : List UInt8} (hk : k ≠ []) (hw : wordOk [58] k = true) : headQ (headR k t) = some (k, t) := by
  have h58 := word_not hw (c := 58) (by simp [byteBad])
  unfold headR
  by_cases ht : t = []
  · have hc : cutC 58 (k ++ [58]) = (k, [], true) := cut_at (b := []) h58
    rw [if_pos ht, headQ, hc, ht]
    exact (if_neg (by simp [hk, hw])).trans (if_pos rfl)
  · have hc : cutC 58 (k ++ [58, 32] ++ t) = (k, 32 :: t, true) := by
      rw [show k ++ [58, 32] ++ t = k ++ 58 :: (32 :: t) from by simp]; exact cut_at h58
    rw [if_neg ht, headQ, hc]
    refine (if_neg (by simp [hk, hw])).trans ((if_neg (by simp)).trans (if_pos ⟨rfl, ht⟩))
end Go.Proofs.YtgbldojgbpgjbaaGreatDoor
end
section
namespace Go.Proofs.YtgbldojgbpgjbaaGreatDoor
set_option linter.unusedSimpArgs false
set_option linter.unusedVariables false
set_option maxRecDepth 20000
open Go.RowKit Go.Eng
end Go.Proofs.YtgbldojgbpgjbaaGreatDoor
end
section
namespace Go.Proofs.YtgbldojgbpgjbaaGreatDoor
set_option linter.unusedSimpArgs false
set_option linter.unusedVariables false
set_option maxRecDepth 20000
open Go.RowKit Go.Eng
end Go.Proofs.YtgbldojgbpgjbaaGreatDoor
end
section
namespace Go.Proofs.YtgbldojgbpgjbaaGreatDoor
set_option linter.unusedSimpArgs false
set_option linter.unusedVariables false
set_option maxRecDepth 20000
open Go.RowKit Go.Eng
theorem split_last : ∀ s : List UInt8, s ≠ [] → ((splitC 10 s).getLast? = some [] ↔ s.getLast? = some 10)
  | [], h => absurd rfl h
  | [x], _ => by
    rw [splitC]
    by_cases h : x = 10
    · rw [if_pos h, h]; simp [splitC]
    · rw [if_neg h]; simp [splitC, h]
  | x :: y :: r, _ => by
    have ih := split_last (y :: r) (by simp)
    rw [splitC, List.getLast?_cons_cons]
    by_cases h : x = 10
    · rw [if_pos h, ← ih]
      cases hq : splitC 10 (y :: r) with
      | nil => have := split_ne 10 (y :: r); rw [hq] at this; cases this
      | cons a t => rw [List.getLast?_cons_cons]
    · rw [if_neg h, ← ih]
      cases hq : splitC 10 (y :: r) with
      | nil => have := split_ne 10 (y :: r); rw [hq] at this; cases this
      | cons a t =>
        cases t with
        | cons b u => show ((x :: a) :: b :: u).getLast? = some [] ↔ _; rw [List.getLast?_cons_cons, List.getLast?_cons_cons]
        | nil =>
          have ha : a ≠ [] := by
            rintro rfl
            rw [splitC] at hq
            by_cases hy : y = 10
            · rw [if_pos hy] at hq
              have h1 := split_ne 10 r
              have h2 := congrArg List.length hq
              rw [List.length_cons, List.length_cons, List.length_nil] at h2; omega
            · rw [if_neg hy] at hq
              cases hr : splitC 10 r with
              | nil => rw [hr] at hq; simp at hq
              | cons u v => rw [hr] at hq; simp at hq
          show ([x :: a]).getLast? = some [] ↔ ([a]).getLast? = some []
          simp [ha]
theorem getD_last {α : Type} (l : List α) (d : α) : l.getD (l.length - 1) d = l.getLast?.getD d := by
  rw [List.getD_eq_getElem?_getD, List.getLast?_eq_getElem?]
theorem tl_10 {s : List UInt8} (h : 0 < s.length) : (tlQ s = [] ↔ s.getD (s.length - 1) 0 = 10) := by
  have hne : s ≠ [] := fun e => by rw [e] at h; cases h
  have h1 := split_last s hne
  unfold tlQ
  rw [getD_last, getD_last]
  have h2 : ∃ a, (splitC 10 s).getLast? = some a := by
    have h3 := split_ne 10 s
    exact ⟨_, List.getLast?_eq_some_getLast (List.length_pos_iff.1 h3)⟩
  have h4 : ∃ a, s.getLast? = some a := ⟨_, List.getLast?_eq_some_getLast hne⟩
  obtain ⟨a, ha⟩ := h2
  obtain ⟨b, hb⟩ := h4
  rw [ha, hb] at h1 ⊢
  simpa using h1
end Go.Proofs.YtgbldojgbpgjbaaGreatDoor
end
section
namespace Go.Proofs.YtgbldojgbpgjbaaGreatDoor
set_option linter.unusedSimpArgs false
set_option linter.unusedVariables false
set_option maxRecDepth 20000
open Go.RowKit Go.Eng
structure RtP (p : PFl) : Prop where
  k : p.k ≠ []
  wk : wordOk [58] p.k = true
  t : (10 : UInt8) ∉ p.t
  fr : ∀ x ∈ p.fr, RtF x
  few : p.fr.length ≤ 200
def lnD (n : Nat) : List UInt8 := dotB ++ Lib.itoa (n : Int) ++ moreB
def shN (p : Option (List Frm)) (f : PFl) : Nat := sh2 (shW p f.fr)
def dotL (n : Nat) : List (List UInt8) := if n = 0 then [] else [lnD n]
def oneL (p : Option (List Frm)) (f : PFl) : List (List UInt8) := (preT p ++ headR f.k f.t) :: ((f.fr.take (f.fr.length - shN p f)).map lnF ++ dotL (shN p f))
def wl : Option (List Frm) → List PFl → List (List UInt8)
  | _, [] => []
  | p, f :: r => oneL p f ++ wl (some f.fr) r
def nlL (ls : List (List UInt8)) : List UInt8 := ls.flatMap fun l => l ++ [10]
theorem nlL_app (a b : List (List UInt8)) : nlL (a ++ b) = nlL a ++ nlL b := List.flatMap_append
theorem frames_nl : ∀ l : List Frm, nlL (l.map lnF) = l.flatMap frameT
  | [] => rfl
  | x :: r => by
    have h := frames_nl r
    rw [List.map_cons, List.flatMap_cons, nlL, List.flatMap_cons]
    rw [show (r.map lnF).flatMap (fun l => l ++ [10]) = r.flatMap frameT from h, lnF, frameT]
    simp only [List.append_assoc]
theorem dot_nl (n : Nat) : nlL (dotL n) = dotT n := by
  unfold dotL dotT
  split
  · rfl
  · simp [nlL, lnD]
theorem one_nl (p : Option (List Frm)) (f : PFl) : nlL (oneL p f) = oneT p f := by
  unfold oneL oneT
  rw [nlL, List.flatMap_cons]
  rw [show ((f.fr.take (f.fr.length - shN p f)).map lnF ++ dotL (shN p f)).flatMap (fun l => l ++ [10]) = nlL ((f.fr.take (f.fr.length - shN p f)).map lnF ++ dotL (shN p f)) from rfl, nlL_app, frames_nl, dot_nl, ← headR_nl]
  simp only [List.append_assoc, frmsT, shN]
theorem wl_nl : ∀ (ps : List PFl) (p : Option (List Frm)), nlL (wl p ps) = writeT p ps
  | [], _ => rfl
  | f :: r, p => by
    rw [wl, writeT, nlL_app, one_nl, wl_nl r]
theorem itoa_nl (n : Nat) : (10 : UInt8) ∉ Lib.itoa (n : Int) := fun hm => by
  have := itoa_digs (Int.natCast_nonneg n) 10 hm
  exact absurd this.1 (by decide)
theorem pre_nl (p : Option (List Frm)) : (10 : UInt8) ∉ preT p := by cases p <;> simp [preT]
theorem wl_no : ∀ (ps : List PFl) (p : Option (List Frm)), (∀ f ∈ ps, RtP f) → ∀ l ∈ wl p ps, (10 : UInt8) ∉ l
  | [], _, _, l, hl => by cases hl
  | f :: r, p, h, l, hl => by
    have hf := h f (List.mem_cons_self ..)
    rcases List.mem_append.1 hl with hl | hl
    · rcases List.mem_cons.1 hl with rfl | hl
      · have h1 : (10 : UInt8) ∉ headR f.k f.t := by
          unfold headR
          split
          · simp only [List.mem_append, List.mem_singleton, not_or]; exact ⟨word_nl hf.wk, by decide⟩
          · simp only [List.mem_append, not_or]; exact ⟨⟨word_nl hf.wk, by decide⟩, hf.t⟩
        simp only [List.mem_append, not_or]
        exact ⟨pre_nl p, h1⟩
      · rcases List.mem_append.1 hl with hl | hl
        · obtain ⟨x, hx, rfl⟩ := List.mem_map.1 hl
          exact lnF_nl (hf.fr x (List.mem_of_mem_take hx))
        · unfold dotL at hl
          split at hl
          · cases hl
          · rw [List.mem_singleton.1 hl, lnD]
            simp only [List.mem_append, not_or]
            exact ⟨⟨by decide, itoa_nl _⟩, by decide⟩
    · exact wl_no r (some f.fr) (fun g hg => h g (List.mem_cons_of_mem _ hg)) l hl
/-! ### Shares -/
theorem shL_take : ∀ a b : List Frm, a.take (shL a b) = b.take (shL a b)
  | [], b => by simp [shL]
  | x :: a, [] => by simp [shL]
  | x :: a, y :: b => by
    rw [shL]
    split
    · rename_i h
      rw [(Frm.eqB_iff x y).1 h, List.take_succ_cons, List.take_succ_cons, shL_take a b]
    · rfl
theorem shQ_drop (a b : List Frm) : a.drop (a.length - shQ a b) = b.drop (b.length - shQ a b) := by
  have h := shL_take a.reverse b.reverse
  rw [List.take_reverse, List.take_reverse] at h
  exact List.reverse_inj.1 h
theorem join_back {b : List PFl} {fr : List Frm} (hb : b ≠ []) (h2 : 2 ≤ shQ (lastF b) fr) : joinF b (fr.take (fr.length - shQ (lastF b) fr)) (shQ (lastF b) fr) = some fr := by
  have hle := shQ_le (lastF b) fr
  have he : fr.take (fr.length - shQ (lastF b) fr) ++ (lastF b).drop ((lastF b).length - shQ (lastF b) fr) = fr := by
    rw [shQ_drop, List.take_append_drop]
  rw [joinF_go hb (by omega) (by omega), he, if_pos rfl]
theorem dot_back {n : Nat} (hn : n < 1000) : dotQ (lnD n) = some n := by
  have hd : (lnD n).drop 8 = Lib.itoa (n : Int) ++ moreB := rfl
  have hs : Lib.hasSuffix ((lnD n).drop 8) moreB = true := by
    rw [hd, Lib.hasSuffix, List.isSuffixOf_iff_suffix]; exact List.suffix_append _ _
  rw [dotQ, if_pos hs, hd, List.length_append, show moreB.length = 5 from rfl, Nat.add_sub_cancel, List.take_left]
  exact num10 (k := 2) hn
theorem pre_of (a b : List UInt8) : Lib.hasPrefix (a ++ b) a = true := by
  rw [Lib.hasPrefix, List.isPrefixOf_iff_prefix]; exact List.prefix_append a b
theorem frs_run : ∀ (xs : List Frm) (ls : List (List UInt8)) (i : Nat) (acc : List Frm), (∀ x ∈ xs, RtF x) → frsQ (xs.map lnF ++ ls) i acc = frsQ ls (i + xs.length) (acc ++ xs)
  | [], ls, i, acc, _ => by simp
  | x :: r, ls, i, acc, h => by
    have hx := frame_back (h x (List.mem_cons_self ..))
    have hp : Lib.hasPrefix (lnF x) atB = true := pre_of atB _
    have hd : (lnF x).drop 7 = callT x ++ placeT x := rfl
    rw [List.map_cons, List.cons_append, frsQ, if_pos hp, hd, hx]
    show frsQ (r.map lnF ++ ls) (i + 1) (acc ++ [x]) = _
    rw [frs_run r ls (i + 1) (acc ++ [x]) fun y hy => h y (List.mem_cons_of_mem _ hy), List.length_cons, List.append_assoc]
    rw [show i + 1 + r.length = i + (r.length + 1) by omega]; rfl
def prevB (b : List PFl) : Option (List Frm) := if b = [] then none else some (lastF b)
def restOk (ls : List (List UInt8)) : Prop := ls = [] ∨ begL ls causeB = true
theorem rest_no {ls : List (List UInt8)} (h : restOk ls) : begL ls atB = false ∧ begL ls dotB = false := by
  rcases h with rfl | h
  · exact ⟨rfl, rfl⟩
  · cases ls with
    | nil => cases h
    | cons l r =>
      have h1 : Lib.hasPrefix l causeB = true := h
      obtain ⟨t, rfl⟩ := List.isPrefixOf_iff_prefix.1 h1
      constructor
      · show Lib.hasPrefix (causeB ++ t) atB = false; simp [Lib.hasPrefix, List.isPrefixOf]
      · show Lib.hasPrefix (causeB ++ t) dotB = false; simp [Lib.hasPrefix, List.isPrefixOf]
theorem pre_prev (b : List PFl) : preT (prevB b) = preQ b := by
  unfold prevB preQ
  split <;> rfl
theorem fault_back {b : List PFl} {f : PFl} {rest : List (List UInt8)} {i : Nat} (h : RtP f) (hr : restOk rest) : faultQ b [] i (oneL (prevB b) f ++ rest) = .inr (f, rest, i + (oneL (prevB b) f).length) := by
  have hpp := pre_prev b
  obtain ⟨hra, hrd⟩ := rest_no hr
  have hbeg : begL (oneL (prevB b) f ++ rest) (preQ b) = true := by
    show Lib.hasPrefix (preT (prevB b) ++ headR f.k f.t) (preQ b) = true
    rw [hpp]; exact pre_of _ _
  have hk : fhQ (oneL (prevB b) f ++ rest) (preQ b) = some (f.k, f.t) := by
    rw [fhQ, if_pos hbeg, nxV_yes hbeg]
    show headQ ((preT (prevB b) ++ headR f.k f.t).drop (preQ b).length) = _
    rw [hpp, List.drop_left]; exact head_back h.k h.wk
  rw [faultQ_yes hk]
  have hd1 : (oneL (prevB b) f ++ rest).drop 1 = (f.fr.take (f.fr.length - shN (prevB b) f)).map lnF ++ (dotL (shN (prevB b) f) ++ rest) := by
    show ((f.fr.take (f.fr.length - shN (prevB b) f)).map lnF ++ dotL (shN (prevB b) f)) ++ rest = _
    rw [List.append_assoc]
  have hda : begL (dotL (shN (prevB b) f) ++ rest) atB = false := by
    unfold dotL
    split
    · exact hra
    · show Lib.hasPrefix (lnD _) atB = false
      unfold lnD
      simp [Lib.hasPrefix, List.isPrefixOf]
  rw [hd1, frs_run _ _ _ _ fun x hx => h.fr x (List.mem_of_mem_take hx), List.nil_append, frsQ_end hda]
  have hlen : (oneL (prevB b) f).length = 1 + (f.fr.take (f.fr.length - shN (prevB b) f)).length + (dotL (shN (prevB b) f)).length := by
    rw [oneL, List.length_cons, List.length_append, List.length_map]; omega
  show restQ b [] i f.k f.t (f.fr.take (f.fr.length - shN (prevB b) f)) (dotL (shN (prevB b) f) ++ rest) (i + 1 + (f.fr.take (f.fr.length - shN (prevB b) f)).length) = _
  by_cases hN : shN (prevB b) f = 0
  · have hd0 : dotL (shN (prevB b) f) = [] := by rw [dotL, if_pos hN]
    have hfr : f.fr.take (f.fr.length - shN (prevB b) f) = f.fr := by rw [hN, Nat.sub_zero, List.take_length]
    rw [hd0, hfr] at hlen
    rw [hd0, hfr, List.nil_append, restQ_go hrd, hlen]
    · rw [List.length_nil, Nat.add_zero, Nat.add_assoc]; rfl
    · rintro ⟨_, h1 | h1⟩ <;> exact absurd h1 (by decide)
    · rintro ⟨h1, h2⟩
      unfold shN prevB at hN
      rw [if_neg h1] at hN
      unfold sh2 at hN
      split at hN
      · rename_i h3
        have : shW (some (lastF b)) f.fr = shQ (lastF b) f.fr := rfl
        omega
      · omega
  · have hb : b ≠ [] := fun e => hN (by rw [e]; rfl)
    have hpb : prevB b = some (lastF b) := if_neg hb
    have hsq : shN (prevB b) f = shQ (lastF b) f.fr ∧ 2 ≤ shQ (lastF b) f.fr := by
      unfold shN at hN ⊢
      rw [hpb] at hN ⊢
      unfold sh2 at hN ⊢
      have : shW (some (lastF b)) f.fr = shQ (lastF b) f.fr := rfl
      split at hN
      · exact absurd rfl hN
      · rename_i h3; rw [if_neg h3]; exact ⟨this, by omega⟩
    have hle := (shQ_le (lastF b) f.fr).2
    have hfew := h.few
    have hd0 : dotL (shN (prevB b) f) = [lnD (shN (prevB b) f)] := by rw [dotL, if_neg hN]
    rw [hd0] at hlen
    rw [hd0]
    have hbd : begL ([lnD (shN (prevB b) f)] ++ rest) dotB = true := by
      show Lib.hasPrefix (lnD _) dotB = true
      rw [lnD, List.append_assoc]; exact pre_of _ _
    rw [restQ_dots (fr' := f.fr) hbd, hlen]
    · rw [List.length_singleton]
      show Sum.inr (f, rest, _) = _
      rw [show i + 1 + (f.fr.take (f.fr.length - shN (prevB b) f)).length + 1 = i + (1 + (f.fr.take (f.fr.length - shN (prevB b) f)).length + 1) by omega]
    · show (dotQ (lnD (shN (prevB b) f))).bind _ = _
      rw [dot_back (by omega), hsq.1]
      exact join_back hb hsq.2
theorem lastF_snoc (b : List PFl) (f : PFl) : prevB (b ++ [f]) = some f.fr := by
  rw [prevB, if_neg (by simp), lastF]; simp
theorem inner_back : ∀ (ps : List PFl) (b : List PFl) (i fuel : Nat), ps ≠ [] → (∀ f ∈ ps, RtP f) → ps.length ≤ fuel → innerQ [] fuel b (wl (prevB b) ps) i = .inl (b ++ ps)
  | [], _, _, _, h, _, _ => absurd rfl h
  | f :: r, b, i, 0, _, _, h3 => by simp at h3
  | f :: r, b, i, fuel + 1, _, h, h3 => by
    have hf := h f (List.mem_cons_self ..)
    rw [wl]
    cases r with
    | nil =>
      show innerQ [] (fuel + 1) b (oneL (prevB b) f ++ []) i = _
      rw [innerQ_end (fault_back hf (.inl rfl))]
    | cons g s =>
      have hrest : restOk (wl (some f.fr) (g :: s)) := by
        refine .inr ?_
        show Lib.hasPrefix (preT (some f.fr) ++ headR g.k g.t) causeB = true
        exact pre_of _ _
      rw [innerQ_go (fault_back hf hrest) (by simp [wl, oneL]), ← lastF_snoc b f]
      rw [inner_back (g :: s) (b ++ [f]) _ fuel (by simp) (fun x hx => h x (List.mem_cons_of_mem _ hx)) (by simp only [List.length_cons] at h3 ⊢; omega), List.append_assoc]
      rfl
theorem wl_len : ∀ (ps : List PFl) (p : Option (List Frm)), ps.length ≤ (wl p ps).length
  | [], _ => Nat.zero_le _
  | f :: r, p => by
    have h := wl_len r (some f.fr)
    rw [wl, List.length_append, List.length_cons, oneL, List.length_cons]; omega
theorem faults_back {ps : List PFl} (h0 : ps ≠ []) (h : ∀ f ∈ ps, RtP f) : innerS (writeT none ps) = .inl ps ∧ rdW (writeT none ps) = 0 := by
  have hs : splitC 10 (writeT none ps) = wl none ps ++ [[]] := by rw [← wl_nl]; exact split_lines (wl_no ps none h)
  have hls : lsQ (writeT none ps) = wl none ps := by rw [lsQ, hs, List.length_append, List.length_singleton, Nat.add_sub_cancel, List.take_left]
  have htl : tlQ (writeT none ps) = [] := by
    rw [tlQ, hs, List.length_append, List.length_singleton, Nat.add_sub_cancel]
    simp
  have hi : innerS (writeT none ps) = .inl ps := by
    rw [innerS, hls, htl]
    exact inner_back ps [] 0 _ h0 h (by have := wl_len ps none; omega)
  refine ⟨hi, ?_⟩
  rw [rdW, hi]
  exact if_pos ((tl_10 (innerS_ne hi)).1 htl)
theorem faults_read {ps : List PFl} (h0 : ps ≠ []) (h : ∀ f ∈ ps, RtP f) (hp : pNo ps = 0) : sNo (writeT none ps) = 0 ∧ sL (writeT none ps) = ps := by
  obtain ⟨h1, h2⟩ := faults_back h0 h
  have h3 : ¬ 0 < rdW (writeT none ps) := by omega
  rw [sNo, sL, if_neg h3, if_neg h3, h1]
  exact ⟨hp, if_pos hp⟩
end Go.Proofs.YtgbldojgbpgjbaaGreatDoor
end
section
namespace Go.Proofs.YtgbldojgbpgjbaaGreatDoor
set_option linter.unusedSimpArgs false
set_option linter.unusedVariables false
set_option maxRecDepth 20000
open Go.RowKit Go.Eng
theorem plain_and (s : List UInt8) (k : Nat) : (plainOk s k && !decide (s = [])) = plainOk s k := by
  cases h : plainOk s k with
  | false => rfl
  | true => rw [decide_eq_false (plain_parts h).1]; rfl
/-! ### A round of the reader -/
end Go.Proofs.YtgbldojgbpgjbaaGreatDoor
end
section
namespace Go.Proofs.YtgbldojgbpgjbaaGreatDoor
set_option linter.unusedSimpArgs false
set_option linter.unusedVariables false
set_option maxRecDepth 20000
open Go.RowKit Go.Eng
end Go.Proofs.YtgbldojgbpgjbaaGreatDoor
end
section
namespace Go.Proofs.YtgbldojgbpgjbaaGreatDoor
set_option linter.unusedSimpArgs false
set_option linter.unusedVariables false
set_option maxRecDepth 20000
open Go.RowKit Go.Eng
end Go.Proofs.YtgbldojgbpgjbaaGreatDoor
end
section
namespace Go.Proofs.YtgbldojgbpgjbaaGreatDoor
set_option linter.unusedSimpArgs false
set_option linter.unusedVariables false
set_option maxRecDepth 20000
open Go.RowKit Go.Eng
theorem readQ_ev {s r : List UInt8} {h : Hd} {n : Nat} (hs1 : ¬ 1000000 < s.length) (hR : rdR s = .inl (h, r, n)) (h42 : sNo r = 0) : readQ s = if evP h (sL r) ≠ 0 then (0, evP h (sL r), hd0, []) else (0, 0, h, sL r) := by
  have h35 : ¬ sNo r = 8 := by rw [h42]; decide
  by_cases h43 : headNo h.id h.at_ h.lv = 0
  · rw [readQ_go hs1 hR h35 h43, if_pos h42]
  · have he : evP h (sL r) = headNo h.id h.at_ h.lv := if_pos h43
    rw [he, if_pos h43, readQ, if_neg hs1, hR]; exact (if_neg h35).trans (if_pos h43)
/-! ### What was read, twice -/
end Go.Proofs.YtgbldojgbpgjbaaGreatDoor
end
section
namespace Go.Proofs.YtgbldojgbpgjbaaGreatDoor
set_option linter.unusedSimpArgs false
set_option linter.unusedVariables false
set_option maxRecDepth 20000
open Go.RowKit Go.Eng
structure RtE (e : Evt) : Prop where
  id : e.id ≠ [] ∧ (10 : UInt8) ∉ e.id
  at_ : 0 ≤ e.at_ ∧ e.at_ ≤ 3155759999
  lv : 1 ≤ e.lv ∧ e.lv ≤ 5
  wt : 1 ≤ e.wt ∧ e.wt ≤ 1000000
  rel : (10 : UInt8) ∉ e.rel
  us : (10 : UInt8) ∉ e.us
  ta : ∀ t ∈ e.ta.l, t.n ≠ [] ∧ (10 : UInt8) ∉ t.n ∧ (32 : UInt8) ∉ t.n ∧ (10 : UInt8) ∉ t.v
  cr : ∀ c ∈ e.cr.l, (0 ≤ c.at_ ∧ c.at_ ≤ 3155759999) ∧ c.k ≠ [] ∧ (10 : UInt8) ∉ c.k ∧ (32 : UInt8) ∉ c.k ∧ (10 : UInt8) ∉ c.t
  fa : ∀ f ∈ e.fa.l.map pfl, RtP f
def hdOf (e : Evt) : Hd := ⟨e.id, e.at_, e.lv, e.ta.l, e.cr.l, e.rel, e.us, e.wt⟩
theorem fol_gt {last k : Int} (h : 3 ≤ last) (hk : last < k) : folQ last k = true := by
  unfold folQ
  rw [if_neg (by omega)]
  split
  · exact decide_eq_true (by omega)
  · exact decide_eq_true hk
theorem rd_line {w v rest : List UInt8} {f n : Nat} {last k : Int} {h : Hd} (hw32 : (32 : UInt8) ∉ w) (hw10 : (10 : UInt8) ∉ w) (hv : (10 : UInt8) ∉ v) (hk : kindK w = k) (hk0 : 0 ≤ k ∧ k ≤ 7) (hf : folQ last k = true) (ht : (takeQ h k v).2 = true) :
    rdL (f + 1) ((w ++ 32 :: v) ++ 10 :: rest) n last h = rdL f rest (n + 1) k (takeQ h k v).1 := by
  have h10 : (10 : UInt8) ∉ w ++ 32 :: v := by
    simp only [List.mem_append, List.mem_cons, not_or]; exact ⟨hw10, by decide, hv⟩
  have hc := cut_at (c := 10) (b := rest) h10
  have hc2 := cut_at (c := 32) (b := v) hw32
  have hkn : knQ ((w ++ 32 :: v) ++ 10 :: rest) = k := by rw [knQ, hc]; show kindK (cutC 32 (w ++ 32 :: v)).1 = k; rw [hc2]; exact hk
  have hrs : rsQ ((w ++ 32 :: v) ++ 10 :: rest) = v := by rw [rsQ, hc]; show (cutC 32 (w ++ 32 :: v)).2.1 = v; rw [hc2]
  have his : isQ ((w ++ 32 :: v) ++ 10 :: rest) = true := by rw [isQ, hc]; show (cutC 32 (w ++ 32 :: v)).2.2 = true; rw [hc2]
  have hb : badL ((w ++ 32 :: v) ++ 10 :: rest) last = false := by rw [badL, hc, hkn, hf, decide_eq_false (by omega)]; rfl
  rw [rdL, if_neg (by rw [hb]; decide), hkn, if_neg (by omega), his, hrs, ht, if_neg (by decide), hc]
theorem rd_end {rest : List UInt8} {f n : Nat} {last : Int} {h : Hd} (hl : 3 ≤ last ∧ last ≤ 7) : rdL (f + 1) (faB ++ 10 :: rest) n last h = .inl (h, rest, n) := by
  have hc := cut_at (c := 10) (a := faB) (b := rest) (by decide)
  have hkn : knQ (faB ++ 10 :: rest) = 8 := by rw [knQ, hc]; show kindK (cutC 32 faB).1 = 8; rw [cut_fa]; decide
  have his : isQ (faB ++ 10 :: rest) = false := by rw [isQ, hc]; show (cutC 32 faB).2.2 = false; rw [cut_fa]
  have hb : badL (faB ++ 10 :: rest) last = false := by rw [badL, hc, hkn, fol_gt hl.1 (by omega)]; rfl
  rw [rdL, if_neg (by rw [hb]; decide), hkn, if_pos rfl, his, if_neg (by decide), hc]
theorem ln2_eq (a b rest : List UInt8) : lnT [a, b] ++ rest = (a ++ 32 :: b) ++ 10 :: rest := by simp [lnT, jnS]
theorem ln3_eq (a b c rest : List UInt8) : lnT [a, b, c] ++ rest = (a ++ 32 :: (b ++ 32 :: c)) ++ 10 :: rest := by simp [lnT, jnS]
theorem ln4_eq (a b c d rest : List UInt8) : lnT [a, b, c, d] ++ rest = (a ++ 32 :: (b ++ 32 :: (c ++ 32 :: d))) ++ 10 :: rest := by simp [lnT, jnS]
theorem tag_take {h : Hd} {t : STag} (ht : t.n ≠ [] ∧ (32 : UInt8) ∉ t.n) : takeQ h 6 (t.n ++ 32 :: t.v) = ({ h with ta := h.ta ++ [t] }, true) := by
  have hc := cut_at (c := 32) (b := t.v) ht.2
  show (({ h with ta := h.ta ++ [(⟨(cutC 32 (t.n ++ 32 :: t.v)).1, (cutC 32 (t.n ++ 32 :: t.v)).2.1⟩ : STag)] } : Hd), (cutC 32 (t.n ++ 32 :: t.v)).2.2 && !decide ((cutC 32 (t.n ++ 32 :: t.v)).1 = [])) = _
  rw [hc, decide_eq_false ht.1]; rfl
theorem rd_tags : ∀ (ts : List STag) (n : Nat) (last : Int) (h : Hd) (rest : List UInt8), (3 ≤ last ∧ last ≤ 6) → (∀ t ∈ ts, t.n ≠ [] ∧ (10 : UInt8) ∉ t.n ∧ (32 : UInt8) ∉ t.n ∧ (10 : UInt8) ∉ t.v) →
    ∃ last', (3 ≤ last' ∧ last' ≤ 6) ∧ ∀ f, rdL (f + ts.length) (ts.flatMap tagT ++ rest) n last h = rdL f rest (n + ts.length) last' { h with ta := h.ta ++ ts }
  | [], n, last, h, rest, hl, _ => ⟨last, hl, fun f => by simp⟩
  | t :: r, n, last, h, rest, hl, ht => by
    obtain ⟨h1, h2, h3, h4⟩ := ht t (List.mem_cons_self ..)
    obtain ⟨l', hl', e⟩ := rd_tags r (n + 1) 6 { h with ta := h.ta ++ [t] } rest ⟨by decide, by decide⟩ fun x hx => ht x (List.mem_cons_of_mem _ hx)
    refine ⟨l', hl', fun f => ?_⟩
    have hf : folQ last 6 = true := by
      by_cases e6 : last = 6
      · rw [e6]; decide
      · exact fol_gt hl.1 (by omega)
    rw [List.flatMap_cons, List.append_assoc, tagT, ln3_eq, List.length_cons, ← Nat.add_assoc]
    rw [rd_line (k := 6) (by decide) (by decide) (by simp only [List.mem_append, List.mem_cons, not_or]; exact ⟨h2, by decide, h4⟩) (by decide) ⟨by decide, by decide⟩ hf (by rw [tag_take (t := t) ⟨h1, h3⟩]), tag_take (t := t) ⟨h1, h3⟩, e]
    rw [show n + 1 + r.length = n + (r.length + 1) by omega]
    simp
theorem plain10 {n : Int} (h : 0 ≤ n ∧ n ≤ 3155759999) : plainOk (Lib.itoa n) 10 = true ∧ ((plainJ (Lib.itoa n) 10 : Nat) : Int) = n := by
  obtain ⟨k, rfl⟩ : ∃ k : Nat, n = (k : Int) := ⟨n.toNat, by omega⟩
  obtain ⟨a, b⟩ := plain_itoa (k := 9) (n := k) (by show k < 10000000000; omega)
  exact ⟨a, by rw [b]⟩
theorem itoa_not {n : Int} (h : 0 ≤ n) {d : UInt8} (hd : d.toNat < 48) : d ∉ Lib.itoa n := fun hm => by have := itoa_digs h d hm; omega
theorem crumb_take {h : Hd} {c : SCrumb} (ha : 0 ≤ c.at_ ∧ c.at_ ≤ 3155759999) (hk : c.k ≠ [] ∧ (32 : UInt8) ∉ c.k) : takeQ h 7 (Lib.itoa c.at_ ++ 32 :: (c.k ++ 32 :: c.t)) = ({ h with cr := h.cr ++ [c] }, true) := by
  have h1 := cut_at (c := 32) (b := c.k ++ 32 :: c.t) (itoa_not ha.1 (d := 32) (by decide))
  have h2 := cut_at (c := 32) (b := c.t) hk.2
  obtain ⟨p1, p2⟩ := plain10 ha
  generalize hs : Lib.itoa c.at_ ++ 32 :: (c.k ++ 32 :: c.t) = s at h1
  show (({ h with cr := h.cr ++ [(⟨((plainJ (cutC 32 s).1 10 : Nat) : Int), (cutC 32 (cutC 32 s).2.1).1, (cutC 32 (cutC 32 s).2.1).2.1⟩ : SCrumb)] } : Hd), (cutC 32 s).2.2 && (cutC 32 (cutC 32 s).2.1).2.2 && plainOk (cutC 32 s).1 10 && !decide ((cutC 32 (cutC 32 s).2.1).1 = [])) = _
  rw [h1]
  show (({ h with cr := h.cr ++ [(⟨((plainJ (Lib.itoa c.at_) 10 : Nat) : Int), (cutC 32 (c.k ++ 32 :: c.t)).1, (cutC 32 (c.k ++ 32 :: c.t)).2.1⟩ : SCrumb)] } : Hd), true && (cutC 32 (c.k ++ 32 :: c.t)).2.2 && plainOk (Lib.itoa c.at_) 10 && !decide ((cutC 32 (c.k ++ 32 :: c.t)).1 = [])) = _
  rw [h2, p1, p2, decide_eq_false hk.1]; rfl
theorem rd_crumbs : ∀ (ts : List SCrumb) (n : Nat) (last : Int) (h : Hd) (rest : List UInt8), (3 ≤ last ∧ last ≤ 7) → (∀ c ∈ ts, (0 ≤ c.at_ ∧ c.at_ ≤ 3155759999) ∧ c.k ≠ [] ∧ (10 : UInt8) ∉ c.k ∧ (32 : UInt8) ∉ c.k ∧ (10 : UInt8) ∉ c.t) →
    ∃ last', (3 ≤ last' ∧ last' ≤ 7) ∧ ∀ f, rdL (f + ts.length) (ts.flatMap crumbT ++ rest) n last h = rdL f rest (n + ts.length) last' { h with cr := h.cr ++ ts }
  | [], n, last, h, rest, hl, _ => ⟨last, hl, fun f => by simp⟩
  | t :: r, n, last, h, rest, hl, ht => by
    obtain ⟨h0, h1, h2, h3, h4⟩ := ht t (List.mem_cons_self ..)
    obtain ⟨l', hl', e⟩ := rd_crumbs r (n + 1) 7 { h with cr := h.cr ++ [t] } rest ⟨by decide, by decide⟩ fun x hx => ht x (List.mem_cons_of_mem _ hx)
    refine ⟨l', hl', fun f => ?_⟩
    have hf : folQ last 7 = true := by
      by_cases e6 : last = 7
      · rw [e6]; decide
      · exact fol_gt hl.1 (by omega)
    rw [List.flatMap_cons, List.append_assoc, crumbT, ln4_eq, List.length_cons, ← Nat.add_assoc]
    rw [rd_line (k := 7) (by decide) (by decide) (by simp only [List.mem_append, List.mem_cons, not_or]; exact ⟨itoa_not h0.1 (by decide), by decide, h2, by decide, h4⟩) (by decide) ⟨by decide, by decide⟩ hf (by rw [crumb_take (c := t) h0 ⟨h1, h3⟩]), crumb_take (c := t) h0 ⟨h1, h3⟩, e]
    rw [show n + 1 + r.length = n + (r.length + 1) by omega]
    simp
theorem lv_back {n : Int} (h : 1 ≤ n ∧ n ≤ 5) : lvQ (lvW n) = n ∧ lvW n ≠ [] ∧ (10 : UInt8) ∉ lvW n := by
  have h1 : n = 1 ∨ n = 2 ∨ n = 3 ∨ n = 4 ∨ n = 5 := by omega
  rcases h1 with rfl | rfl | rfl | rfl | rfl <;> decide
/-- an optional line -/
theorem rd_opt {w v rest : List UInt8} {n : Nat} {last k : Int} {h h' : Hd} (hw32 : (32 : UInt8) ∉ w) (hw10 : (10 : UInt8) ∉ w) (hv : (10 : UInt8) ∉ v) (hk : kindK w = k) (hk0 : 0 ≤ k ∧ k ≤ 5) (hl : 3 ≤ last ∧ last < k) (h0 : v = [] → h' = h) (ht : v ≠ [] → takeQ h k v = (h', true)) :
    ∃ last' c, (3 ≤ last' ∧ last' ≤ k) ∧ c ≤ 1 ∧ c ≤ (if v = [] then ([] : List UInt8) else lnT [w, v]).length ∧ ∀ f, rdL (f + c) ((if v = [] then [] else lnT [w, v]) ++ rest) n last h = rdL f rest (n + c) last' h' := by
  by_cases hn : v = []
  · refine ⟨last, 0, ⟨hl.1, by omega⟩, by omega, Nat.zero_le _, fun f => ?_⟩
    rw [if_pos hn, h0 hn]; rfl
  · refine ⟨k, 1, ⟨by omega, Int.le_refl _⟩, Nat.le_refl _, by rw [if_neg hn, ln2_le]; omega, fun f => ?_⟩
    rw [if_neg hn, ln2_eq, rd_line hw32 hw10 hv hk ⟨hk0.1, by omega⟩ (fol_gt hl.1 hl.2) (by rw [ht hn]), ht hn]
theorem tags_len (ts : List STag) : ts.length ≤ (ts.flatMap tagT).length := by
  induction ts with
  | nil => exact Nat.zero_le _
  | cons t r ih => rw [List.flatMap_cons, List.length_append, List.length_cons, tagT, ln3_le]; omega
theorem crumbs_len (ts : List SCrumb) : ts.length ≤ (ts.flatMap crumbT).length := by
  induction ts with
  | nil => exact Nat.zero_le _
  | cons t r ih => rw [List.flatMap_cons, List.length_append, List.length_cons, crumbT, ln4_le]; omega
theorem head_read {e : Evt} (h : RtE e) (rest : List UInt8) : ∃ n, rdR (hdT e ++ rest) = .inl (hdOf e, rest, n) := by
  obtain ⟨ha1, ha2⟩ := plain10 h.at_
  obtain ⟨hw1, hw2⟩ := plain10 (n := e.wt) (by have := h.wt; omega)
  obtain ⟨hl1, hl2, hl3⟩ := lv_back h.lv
  obtain ⟨l5, c5, hb5, hc5, hd5, e5⟩ := rd_opt (w := kRel) (v := e.rel) (k := 4) (last := 3) (h := ⟨e.id, e.at_, e.lv, [], [], [], [], e.wt⟩) (h' := ⟨e.id, e.at_, e.lv, [], [], e.rel, [], e.wt⟩)
    (rest := (if e.us = [] then [] else lnT [kUs, e.us]) ++ (e.ta.l.flatMap tagT ++ (e.cr.l.flatMap crumbT ++ (faB ++ 10 :: rest)))) (n := 5) (by decide) (by decide) h.rel (by decide) ⟨by decide, by decide⟩ ⟨by decide, by decide⟩ (fun hn => by rw [hn]) (fun hn => by show (_, !decide (e.rel = [])) = _; rw [decide_eq_false hn]; rfl)
  obtain ⟨l6, c6, hb6, hc6, hd6, e6⟩ := rd_opt (w := kUs) (v := e.us) (k := 5) (last := l5) (h := ⟨e.id, e.at_, e.lv, [], [], e.rel, [], e.wt⟩) (h' := ⟨e.id, e.at_, e.lv, [], [], e.rel, e.us, e.wt⟩)
    (rest := e.ta.l.flatMap tagT ++ (e.cr.l.flatMap crumbT ++ (faB ++ 10 :: rest))) (n := 5 + c5) (by decide) (by decide) h.us (by decide) ⟨by decide, by decide⟩ ⟨hb5.1, by omega⟩ (fun hn => by rw [hn]) (fun hn => by show (_, !decide (e.us = [])) = _; rw [decide_eq_false hn]; rfl)
  obtain ⟨l7, hb7, e7⟩ := rd_tags e.ta.l (5 + c5 + c6) l6 ⟨e.id, e.at_, e.lv, [], [], e.rel, e.us, e.wt⟩ (e.cr.l.flatMap crumbT ++ (faB ++ 10 :: rest)) ⟨hb6.1, by omega⟩ h.ta
  obtain ⟨l8, hb8, e8⟩ := rd_crumbs e.cr.l (5 + c5 + c6 + e.ta.l.length) l7 ⟨e.id, e.at_, e.lv, e.ta.l, [], e.rel, e.us, e.wt⟩ (faB ++ 10 :: rest) ⟨hb7.1, by omega⟩ h.cr
  have hs : hdT e ++ rest = (kEv ++ 32 :: e.id) ++ 10 :: ((kAt ++ 32 :: Lib.itoa e.at_) ++ 10 :: ((kLv ++ 32 :: lvW e.lv) ++ 10 :: ((kWt ++ 32 :: Lib.itoa e.wt) ++ 10 :: ((if e.rel = [] then [] else lnT [kRel, e.rel]) ++ ((if e.us = [] then [] else lnT [kUs, e.us]) ++ (e.ta.l.flatMap tagT ++ (e.cr.l.flatMap crumbT ++ (faB ++ 10 :: rest)))))))) := by
    simp [hdT, hd6T, hd5T, hd4T, lnT, jnS]
  obtain ⟨f, hf⟩ : ∃ f, (hdT e ++ rest).length + 1 = f + 1 + e.cr.l.length + e.ta.l.length + c6 + c5 + 1 + 1 + 1 + 1 := by
    have h1 := tags_len e.ta.l
    have h2 := crumbs_len e.cr.l
    refine ⟨(hdT e ++ rest).length + 1 - (1 + e.cr.l.length + e.ta.l.length + c6 + c5 + 4), ?_⟩
    have h3 : 4 + c5 + c6 + e.ta.l.length + e.cr.l.length ≤ (hdT e ++ rest).length := by
      simp only [hdT, hd6T, hd5T, hd4T, List.length_append, ln2_le]; omega
    omega
  refine ⟨5 + c5 + c6 + e.ta.l.length + e.cr.l.length, ?_⟩
  rw [rdR, hf, hs]
  have t0 : takeQ hd0 0 e.id = (⟨e.id, 0, 0, [], [], [], [], 0⟩, true) := by show (_, !decide (e.id = [])) = _; rw [decide_eq_false h.id.1]; rfl
  have t1 : takeQ ⟨e.id, 0, 0, [], [], [], [], 0⟩ 1 (Lib.itoa e.at_) = (⟨e.id, e.at_, 0, [], [], [], [], 0⟩, true) := by
    show (({ (⟨e.id, 0, 0, [], [], [], [], 0⟩ : Hd) with at_ := ((plainJ (Lib.itoa e.at_) 10 : Nat) : Int) } : Hd), plainOk (Lib.itoa e.at_) 10 && !decide (Lib.itoa e.at_ = [])) = _
    rw [plain_and, ha1, ha2]
  have t2 : takeQ ⟨e.id, e.at_, 0, [], [], [], [], 0⟩ 2 (lvW e.lv) = (⟨e.id, e.at_, e.lv, [], [], [], [], 0⟩, true) := by
    show (({ (⟨e.id, e.at_, 0, [], [], [], [], 0⟩ : Hd) with lv := lvQ (lvW e.lv) } : Hd), decide (0 < lvQ (lvW e.lv)) && !decide (lvW e.lv = [])) = _
    rw [hl1, decide_eq_false hl2, decide_eq_true (show 0 < e.lv by have := h.lv; omega)]; rfl
  have t3 : takeQ ⟨e.id, e.at_, e.lv, [], [], [], [], 0⟩ 3 (Lib.itoa e.wt) = (⟨e.id, e.at_, e.lv, [], [], [], [], e.wt⟩, true) := by
    show (({ (⟨e.id, e.at_, e.lv, [], [], [], [], 0⟩ : Hd) with wt := ((plainJ (Lib.itoa e.wt) 10 : Nat) : Int) } : Hd), plainOk (Lib.itoa e.wt) 10 && !decide (Lib.itoa e.wt = [])) = _
    rw [plain_and, hw1, hw2]
  rw [rd_line (k := 0) (by decide) (by decide) h.id.2 (by decide) ⟨by decide, by decide⟩ (by decide) (by rw [t0]), t0]
  rw [rd_line (k := 1) (by decide) (by decide) (itoa_not h.at_.1 (by decide)) (by decide) ⟨by decide, by decide⟩ (by decide) (by rw [t1]), t1]
  rw [rd_line (k := 2) (by decide) (by decide) hl3 (by decide) ⟨by decide, by decide⟩ (by decide) (by rw [t2]), t2]
  rw [rd_line (k := 3) (by decide) (by decide) (itoa_not (by have := h.wt; omega) (by decide)) (by decide) ⟨by decide, by decide⟩ (by decide) (by rw [t3]), t3]
  rw [show 1 + 1 + 1 + 1 + 1 = 5 from rfl, e5, e6, e7]
  rw [show ({ (⟨e.id, e.at_, e.lv, [], [], e.rel, e.us, e.wt⟩ : Hd) with ta := [] ++ e.ta.l } : Hd) = ⟨e.id, e.at_, e.lv, e.ta.l, [], e.rel, e.us, e.wt⟩ from rfl, e8]
  rw [rd_end ⟨hb8.1, hb8.2⟩]
  rfl
/-! ### An event -/
theorem bang_no {x : Frm} (h : bangF x = false) : (33 : UInt8) ∉ x.f ∧ (33 : UInt8) ∉ x.m := by
  unfold bangF at h
  rw [Bool.or_eq_false_iff, ← Lib.contains_iff_indexByte, ← Lib.contains_iff_indexByte] at h
  simpa using h
theorem marksB_of {s : List UInt8} (h : wordOk marks s = true) (h2 : (33 : UInt8) ∉ s) : wordOk marksB s = true := by
  simp only [wordOk, Bool.not_eq_true', List.any_eq_false] at h ⊢
  intro c hc
  have h1 := h c hc
  have h3 : c ≠ 33 := fun e => h2 (e ▸ hc)
  simp only [byteBad, Bool.or_eq_true, decide_eq_true_eq, not_or] at h1 ⊢
  refine ⟨h1.1, ?_⟩
  have h4 := h1.2
  simp only [List.contains_cons, List.contains_nil, Bool.or_eq_true, beq_iff_eq, Bool.or_false, not_or] at h4 ⊢
  exact ⟨h4.1, h4.2.1, h4.2.2.1, h4.2.2.2, h3⟩
theorem rtF_of {x : Frm} (h : frmNo x = 0) (hb : bangF x = false) : RtF x := by
  obtain ⟨hf, hm⟩ := bang_no hb
  have hN := frmNo_right h
  unfold frmNo at h
  split at h
  · contradiction
  rename_i h1
  have h1 : wordsNo x.m x.f x.fi = 0 := by omega
  split at h
  · cases h
  split at h
  · cases h
  rename_i h3
  unfold wordsNo at h1
  split at h1
  · cases h1
  split at h1
  · cases h1
  rename_i h5
  split at h1
  · cases h1
  rename_i h6
  simp only [Bool.or_eq_true, Bool.not_eq_true', not_or, Bool.not_eq_false] at h5
  exact ⟨h6, marksB_of h5.1.2 hf, marksB_of h5.1.1 hm, h5.2, hN.1.ln, hN.1.ad, fun h7 h8 => h3 ⟨h7, h8⟩⟩
theorem say_nl {s : List UInt8} (h : sayNo s = 0) : (10 : UInt8) ∉ s := fun hm => by
  unfold sayNo at h
  split at h
  · cases h
  · split at h
    · cases h
    · rename_i h2
      exact h2 (List.any_eq_true.2 ⟨10, hm, by decide⟩)
theorem val_nl {s : List UInt8} (h : valNo s = 0) : (10 : UInt8) ∉ s := fun hm => by
  unfold valNo at h
  split at h
  · cases h
  · split at h
    · cases h
    · rename_i h2
      exact h2 (List.any_eq_true.2 ⟨10, hm, by decide⟩)
theorem trim_mem {s cs : List UInt8} (h : Lib.trimS s cs = []) : ∀ c ∈ s, c ∈ cs := fun c hc => by
  have := trimS_nil h c hc
  simpa using this
theorem name_rt {s : List UInt8} (h : nameOk s = true) : s ≠ [] ∧ (10 : UInt8) ∉ s ∧ (32 : UInt8) ∉ s := by
  simp only [nameOk, Bool.and_eq_true, decide_eq_true_eq, Bool.not_eq_true', decide_eq_false_iff_not] at h
  exact ⟨h.1.1.1.1, fun hm => absurd (trim_mem h.2 _ hm) (by decide), fun hm => absurd (trim_mem h.2 _ hm) (by decide)⟩
theorem rtP_of {f : Flt} (hq : f.fr.l.length = f.fr.q) (h : fltNo f = 0) (hb : f.fr.l.any bangF = false) : RtP (pfl f) := by
  have hN := fltNo_right hq h
  unfold fltNo at h
  split at h
  · cases h
  split at h
  · cases h
  rename_i h2
  split at h
  · cases h
  rename_i h3
  split at h
  · contradiction
  rename_i h4
  unfold framesNo at h
  split at h
  · cases h
  have h2 : wordOk [58] f.k = true := by simpa using h2
  have h4 : sayNo f.t = 0 := by omega
  exact ⟨h3, h2, say_nl h4, fun x hx => rtF_of (frmsNo_all h x hx) (by rw [List.any_eq_false] at hb; simpa using hb x hx), hN.q⟩
theorem tags_rt : ∀ {l : List STag} {p : Option (List UInt8)}, tagsNo p l = 0 → ∀ t ∈ l, t.n ≠ [] ∧ (10 : UInt8) ∉ t.n ∧ (32 : UInt8) ∉ t.n ∧ (10 : UInt8) ∉ t.v
  | [], _, _, t, ht => (by cases ht)
  | a :: r, p, h, t, ht => by
    rw [tagsNo] at h
    split at h
    · cases h
    · rename_i h1
      split at h
      · cases h
      · split at h
        · contradiction
        · rename_i h3
          rcases List.mem_cons.1 ht with rfl | h4
          · obtain ⟨a, b, c⟩ := name_rt (s := t.n) (by simpa using h1)
            exact ⟨a, b, c, val_nl (by omega)⟩
          · exact tags_rt h t h4
theorem crumbs_rt : ∀ {l : List SCrumb} {p : Option Int}, crumbsNo p l = 0 → ∀ c ∈ l, (0 ≤ c.at_ ∧ c.at_ ≤ 3155759999) ∧ c.k ≠ [] ∧ (10 : UInt8) ∉ c.k ∧ (32 : UInt8) ∉ c.k ∧ (10 : UInt8) ∉ c.t
  | [], _, _, t, ht => (by cases ht)
  | a :: r, p, h, t, ht => by
    rw [crumbsNo] at h
    split at h
    · cases h
    · rename_i h1
      split at h
      · cases h
      · split at h
        · cases h
        · rename_i h2
          split at h
          · contradiction
          · rename_i h3
            rcases List.mem_cons.1 ht with rfl | h4
            · simp only [Bool.or_eq_true, decide_eq_true_eq, not_or] at h1
              obtain ⟨a, b, c⟩ := name_rt (s := t.k) (by simpa using h2)
              exact ⟨⟨by omega, by omega⟩, a, b, c, say_nl (by omega)⟩
            · exact crumbs_rt h t h4
theorem bang_all {l : List Flt} (h : ¬ bangL l = true) : ∀ f ∈ l, f.fr.l.any bangF = false := fun f hf => by
  have h1 : bangL l = false := by simpa using h
  unfold bangL at h1
  rw [List.any_eq_false] at h1
  simpa using h1 f hf
theorem rtE_of {w : World} {e : Evt} (he : e.Ok w) (h : evNo e = 0) (hb : ¬ bangL e.fa.l = true) : RtE e := by
  have hN := evNo_right he h
  obtain ⟨h1, h⟩ := fst_zero h
  obtain ⟨h2, h⟩ := fst_zero h
  obtain ⟨h3, h⟩ := fst_zero h
  obtain ⟨h4, h⟩ := fst_zero h
  split at h3
  · cases h3
  split at h4
  · cases h4
  split at h
  · cases h
  rename_i h5
  obtain ⟨h6, h7⟩ := fst_zero h
  have hrel : (10 : UInt8) ∉ e.rel := by
    by_cases hr : e.rel = []
    · rw [hr]; simp
    · exact (name_rt (s := e.rel) (by simpa [hr] using h5)).2.1
  unfold headNo at h1
  split at h1
  · cases h1
  rename_i h8
  have hid : idOk e.id = true := by simpa using h8
  simp only [idOk, Bool.and_eq_true, decide_eq_true_eq] at hid
  unfold faultsNo at h2
  split at h2
  · cases h2
  split at h2
  · cases h2
  refine ⟨⟨fun e0 => by rw [e0] at hid; exact absurd hid.1 (by decide), fun hm => absurd (trim_mem hid.2 _ hm) (by decide)⟩, hN.at_, hN.lv, hN.wt, hrel, val_nl h6, tags_rt h3, crumbs_rt h4, fun p hp => ?_⟩
  obtain ⟨f, hf, rfl⟩ := List.mem_map.1 hp
  exact rtP_of (he.fa.n f hf).fr.ok.t.len (fltsNo_all h2 f hf) (bang_all hb f hf)
theorem evP_of {w : World} {e : Evt} (he : e.Ok w) : evP (hdOf e) (e.fa.l.map pfl) = evNo e ∧ faultsNo e.fa = pNo (e.fa.l.map pfl) := by
  have hq := he.fa.ok.t.len
  have ht := he.ta.ok.t.len
  have hc := he.cr.ok.t.len
  have hf : faultsNo e.fa = pNo (e.fa.l.map pfl) := by
    rw [← faultsNo_p (A := e.fa.A) (c := e.fa.c) fun f hf => ((he.fa.n f hf).fr.ok.t.len).symm]
    unfold faultsNo
    rw [hq]
  refine ⟨?_, hf⟩
  unfold evP evNo hdOf
  rw [hf, ← ht, ← hc]
/-- what Text writes Read reads -/
theorem event_back {w : World} {e : Evt} (he : e.Ok w) (h : textNo e = 0) : readQ (textS e) = (0, 0, hdOf e, e.fa.l.map pfl) := by
  obtain ⟨h1, h2⟩ := fst_zero h
  have hb : ¬ bangL e.fa.l = true := fun hb => by rw [if_pos hb] at h2; cases h2
  rw [if_neg hb] at h2
  have hl : ¬ 1000000 < (evT e).length := fun hl => by rw [if_pos (by omega)] at h2; cases h2
  have hR := rtE_of he h1 hb
  obtain ⟨n, hn⟩ := head_read hR (writeT none (e.fa.l.map pfl))
  obtain ⟨e1, e2⟩ := evP_of he
  have hf0 : faultsNo e.fa = 0 := (fst_zero (fst_zero h1).2).1
  have hfq := (evNo_right he h1).fq
  obtain ⟨r1, r2⟩ := faults_read (ps := e.fa.l.map pfl) (fun e0 => by have := List.map_eq_nil_iff.1 e0; rw [this] at hfq; simp at hfq) hR.fa (by rw [← e2]; exact hf0)
  rw [show textS e = evT e from if_pos h]
  rw [readQ_ev hl hn r1, r2, e1, if_neg (by simp [h1])]
end Go.Proofs.YtgbldojgbpgjbaaGreatDoor
end
section
namespace Go.Proofs.YtgbldojgbpgjbaaGreatDoor
set_option linter.unusedSimpArgs false
set_option linter.unusedVariables false
set_option maxRecDepth 20000
open Go.RowKit Go.Eng
section
variable {P : Program} {w0 : World} {F : FL} {L : HL} {o : Oper} {g gx : Bool} {v : Value} {x : Operand}
theorem y_loadTM {α : Type} {enc : α → List Value} {A : Option Addr} {q j size : Nat} {ty : TypeId} {l : List α} {d : TypeDesc} {xe : α} (ho : o.op = .load ty x) (hx : F.ev x = some (gx, .pointer (at_ A j size))) (hs : ∀ w, Mem w0 L w → SlT enc size w A q l) (hsz : ∀ x, (enc x).length = size) (hv : l[j]? = some xe)
    (hu : P.underlying ty = some d) (hd : isAggB d = true) (hz : (P.info? ty).map (·.size) = some (enc xe).length) (hi : g = true → gx = true := by first | exact (fun _ => rfl) | exact (fun h => h) | exact (fun h => (Bool.and_eq_true_iff.1 h).1) | simp_all) : Y P w0 F L g o (.agg (enc xe).toArray) :=
  Y_of fun n a hF hg w hM => by
    have hT := hs w hM
    obtain ⟨ad, rfl, hlt, hc⟩ := hT.rd.2 (by have := (List.getElem?_eq_some_iff.1 hv).1; have := hT.len; omega)
    simp only [execOp, ho, hF.eval_on hx hg hi, at_, Option.map_some, Sem.run_bind, run_loadVarA hu hd hz w (fun i u hu' => by rw [add_of_add]; exact hc _ u (flat_at hsz hv i u hu'))]; rfl
theorem y_load_fTM {α : Type} {enc : α → List Value} {A : Option Addr} {q j size off : Nat} {ty : TypeId} {l : List α} {d : TypeDesc} {xe : α} (ho : o.op = .load ty x) (hx : F.ev x = some (gx, .pointer (at_ A (j * size + off) 1))) (hs : ∀ w, Mem w0 L w → SlT enc size w A q l) (hsz : ∀ x, (enc x).length = size) (hv : l[j]? = some xe)
    (hf : (enc xe)[off]? = some v)
    (hu : P.underlying ty = some d) (hd : isAggB d = false) (hi : g = true → gx = true := by first | exact (fun _ => rfl) | exact (fun h => h) | exact (fun h => (Bool.and_eq_true_iff.1 h).1) | simp_all) : Y P w0 F L g o v :=
  Y_of fun n a hF hg w hM => by
    have hT := hs w hM
    obtain ⟨ad, rfl, hlt, hc⟩ := hT.rd.2 (by have := (List.getElem?_eq_some_iff.1 hv).1; have := hT.len; omega)
    have h1 := hc (j * size + off) v (flat_at hsz hv off v hf)
    simp only [execOp, ho, hF.eval_on hx hg hi, at_, Option.map_some, Sem.run_bind, Nat.mul_one, run_loadVar1 hu hd w h1]; rfl
end
/-! ### awakeFind, Clone of faults -/
theorem awakeT_any (w : World) : Calls Tryz.prog 5 #[] w fun e w' => e = .returned (.bool true) ∧ Below w.heap.size w w' := by
  refine enter_args (args := []) (F := _) Tryz.func5 rfl Tryz.ntmps5 rfl rfl ?_
  intro Rb hRb hRn
  refine tx ?_
  refine sr 1 ?_
  refine sgx ?_
  refine s1 (y_call rfl rfl rfl cf19 (fun _ w _ => Fits_any [97, 42] [97, 98] w (by decide) (by decide))) ?_
  refine sr 1 ?_
  refine sgo ?_
  refine tr1 hRb fun w hM => ?_
  exact ⟨by rw [show gm eqL [97, 42] [97, 98] = true from by first | decide | kernel_rfl], hM.below⟩
theorem CloneFl_any (l : Sl Flt) (w : World) (hl : l.Ok Flt.enc 3 w) (hq : l.q ≤ 1000000) :
    Calls Tryz.prog 8 #[.slice l.A l.q l.c] w fun e w' => ∃ A c, e = .returned (.slice A l.q c) ∧ w'.ownsRow w.heap.size 36 3 (.slice A l.q c) l.q (l.l.flatMap Flt.enc) ∧ Below w.heap.size w w' := by
  have hlen := hl.t.len
  refine enter_args (args := [.slice l.A l.q l.c]) (F := _) Tryz.func8 rfl Tryz.ntmps8 rfl rfl ?_
  intro Rb hRb hRn
  refine tx ?_
  refine S_nilSlice 2 (e := 36) (size := 3) ?_
  refine sr 1 ?_
  refine sgs ?_
  refine tx ?_
  refine sr 1 ?_
  refine s1 (y_bin rfl rfl rfl (fun _ => b_eqln Tryz.underlying22)) ?_
  refine sgo ?_
  refine T_cond rfl ?_ ?_ <;> intro h4
  · skip
    refine tx ?_
    refine S_nilSlice 2 (e := 36) (size := 3) ?_
    refine sr 1 ?_
    refine sgo ?_
    refine tr1 hRb fun w hM => ?_
    have hA : l.A = none := by cases h : l.A with
      | none => rfl
      | some a => rw [h] at h4; cases h4
    have h0 : l.q = 0 := by
      rcases Nat.eq_zero_or_pos l.q with h | h
      · exact h
      · have := hl.t.isSome h; rw [hA] at this; cases this
    have hn : l.l = [] := List.eq_nil_of_length_eq_zero (by omega)
    rw [h0, hn]
    exact ⟨none, 0, rfl, World.ownsRow_nil _ _ _ _, hM.below⟩
  refine kgx ?_
  refine S_buildSlice0 5 5 rfl rfl rfl rfl Tryz.underlying22 sz36 ?_
  intro b5
  refine sr 1 ?_
  obtain ⟨i7, hi7, hz7, hs7, hy7⟩ := info_parts inf36
  refine S_appendG 7 5 (news := l.l.flatMap Flt.enc) rfl rfl rfl rfl rfl rfl rfl (fun w hM => hl.t.rd.below hM.below) Tryz.underlying22 hi7 hz7 hs7 hy7 rfl (by decide) (allOne_of (fun u hu => by obtain ⟨a, _, ha⟩ := List.mem_flatMap.1 hu; simp [Flt.enc] at ha; rcases ha with rfl | rfl | rfl <;> rfl)) ?_ ?_ (l.q) (l.l.flatMap Flt.enc) ?_ ?_ ?_
  · (simp only [maxLen]; omega)
  · omega
  · omega
  · rfl
  intro A7 c7
  refine sr 1 ?_
  refine sgo ?_
  refine tr1 hRb fun w hM => ?_
  exact ⟨A7, c7, rfl, hM.sat 5 _ rfl, hM.below⟩
/-! ### frames of the two families -/
def toSy (f : Frm) : Sy.Frm := ⟨f.m, f.f, f.fi, f.ln, f.ad, f.own⟩
def ofSy (f : Sy.Frm) : Frm := ⟨f.m, f.f, f.fi, f.ln, f.ad, f.own⟩
def slTo (s : Sl Frm) : Sl Sy.Frm := ⟨s.A, s.q, s.c, s.l.map toSy⟩
theorem flat_to (l : List Frm) : (l.map toSy).flatMap Sy.Frm.enc = l.flatMap Frm.enc := by rw [List.flatMap_map]; rfl
theorem flat_of (l : List Sy.Frm) : (l.map ofSy).flatMap Frm.enc = l.flatMap Sy.Frm.enc := by rw [List.flatMap_map]; rfl
theorem FrmsOk.tu {w : World} {s : Sl Frm} (h : FrmsOk w s) : Sy.FrmsOk w (slTo s) :=
  ⟨⟨⟨by show SlR w 6 s.A s.q ((s.l.map toSy).flatMap Sy.Frm.enc); rw [flat_to]; exact h.ok.t.rd, by show (s.l.map toSy).length = s.q; rw [List.length_map]; exact h.ok.t.len⟩, h.ok.cap⟩, h.q, fun f hf => by
    obtain ⟨g, hg, rfl⟩ := List.mem_map.1 hf
    exact h.n g hg⟩
theorem frms_all : ∀ {l : List Frm}, (∀ f ∈ l, frmNo f = 0) → frmsNo l = 0
  | [], _ => rfl
  | a :: r, h => by
    unfold frmsNo
    rw [if_neg (fun hn => hn (h a (by simp))), frms_all (fun f hf => h f (List.mem_cons_of_mem _ hf))]
theorem frms_each : ∀ {l : List Frm}, frmsNo l = 0 → ∀ f ∈ l, frmNo f = 0
  | [], _ => fun f hf => by cases hf
  | a :: r, h => by
    unfold frmsNo at h
    split at h
    · rename_i h1; exact absurd h h1
    rename_i h1
    intro f hf
    rcases List.mem_cons.1 hf with rfl | hf
    · exact Decidable.of_not_not h1
    · exact frms_each h f hf
theorem flts_all : ∀ {l : List Flt}, (∀ f ∈ l, fltNo f = 0) → fltsNo l = 0
  | [], _ => rfl
  | a :: r, h => by
    unfold fltsNo
    rw [if_neg (fun hn => hn (h a (by simp))), flts_all (fun f hf => h f (List.mem_cons_of_mem _ hf))]
theorem flts_each : ∀ {l : List Flt}, fltsNo l = 0 → ∀ f ∈ l, fltNo f = 0
  | [], _ => fun f hf => by cases hf
  | a :: r, h => by
    unfold fltsNo at h
    split at h
    · rename_i h1; exact absurd h h1
    rename_i h1
    intro f hf
    rcases List.mem_cons.1 hf with rfl | hf
    · exact Decidable.of_not_not h1
    · exact flts_each h f hf
theorem flt_fr {x : Flt} (h : fltNo x = 0) : framesNo x.fr = 0 ∧ ∀ fr, framesNo fr = 0 → fltNo ⟨x.k, x.t, fr⟩ = 0 := by
  unfold fltNo at h
  split at h
  · cases h
  rename_i h1
  split at h
  · cases h
  rename_i h2
  split at h
  · cases h
  rename_i h3
  split at h
  · rename_i h4; exact absurd h h4
  rename_i h4
  refine ⟨h, fun fr hf => ?_⟩
  unfold fltNo
  rw [if_neg h1, if_neg h2, if_neg h3, if_neg h4]; exact hf
theorem frs_fr {s : Sl Frm} (h : framesNo s = 0) : s.q ≤ 200 ∧ frmsNo s.l = 0 := by
  unfold framesNo at h
  split at h
  · cases h
  · exact ⟨by omega, h⟩
/-- a frame's function can be asked for -/
theorem frm_ask {x : Frm} (h : frmNo x = 0) : x.f ≠ [] ∧ x.f.length ≤ 200 ∧ x.f.any badC = false := by
  have h' : Sy.frmNo (toSy x) = 0 := h
  have hz := Sy.frm_zero h'
  have h2 : x.f.any (byteBad marks) = false := by
    have : (!(x.f.any (byteBad marks))) = true := hz.2.1.2
    simpa using this
  refine ⟨hz.2.2.2.1, hz.2.1.1, ?_⟩
  rw [List.any_eq_false] at h2 ⊢
  intro c hc hb
  refine h2 c hc ?_
  simp only [badC, Bool.or_eq_true, decide_eq_true_eq] at hb
  simp only [byteBad, Bool.or_eq_true, decide_eq_true_eq]
  omega
theorem res_frames {w : World} {fs : Sl Sy.Frm} {ms : Sl Sy.SMod} {ts : Sl Sy.Tab} (hts : Sy.TabsOk w ts) (h : Sy.resNo fs ms ts = 0) (A : Option Addr) (c : Nat) : framesNo ⟨A, (Sy.resOut fs ms ts).length, c, (Sy.resOut fs ms ts).map ofSy⟩ = 0 ∧ ∀ f ∈ (Sy.resOut fs ms ts).map ofSy, f.m.length ≤ 200 ∧ f.f.length ≤ 200 ∧ f.fi.length ≤ 200 := by
  obtain ⟨h1, h2⟩ := Sy.res_right hts h
  refine ⟨?_, fun f hf => ?_⟩
  · unfold framesNo
    rw [if_neg (by show ¬ (200 : Int) < ((Sy.resOut fs ms ts).length : Int); omega)]
    exact frms_all fun f hf => by
      obtain ⟨g, hg, rfl⟩ := List.mem_map.1 hf
      exact h1 g hg
  · obtain ⟨g, hg, rfl⟩ := List.mem_map.1 hf
    have := Sy.frm_zero (h1 g hg)
    exact ⟨this.1.1, this.2.1.1, this.2.2.1.1⟩
/-! ### prints of the same contents -/
theorem ptFs_pfl (l : List Flt) : ptFs l = (let a := (l.map pfl).flatMap fun p => p1F p.k p.fr; if 0 < a.length then a else (l.map pfl).flatMap fun p => [p.k, plS p.t]) := by
  show _ = if 0 < ((l.map pfl).flatMap fun p => p1F p.k p.fr).length then (l.map pfl).flatMap (fun p => p1F p.k p.fr) else (l.map pfl).flatMap fun p => [p.k, plS p.t]
  rw [List.flatMap_map, List.flatMap_map]; rfl
theorem prS_same {a b : List Flt} (h : a.map pfl = b.map pfl) : prS a = prS b := by rw [prS, prS, ptFs_pfl, ptFs_pfl, h]
end Go.Proofs.YtgbldojgbpgjbaaGreatDoor
end
section
namespace Go.Proofs.YtgbldojgbpgjbaaGreatDoor
set_option linter.unusedSimpArgs false
set_option linter.unusedVariables false
set_option maxRecDepth 20000
open Go.RowKit Go.Eng
def resE (s : Sl Frm) (ms : Sl Sy.SMod) (ts : Sl Sy.Tab) : List Frm := (Sy.resOut (slTo s) ms ts).map ofSy
theorem ResolveE_any (s : Sl Frm) (ms : Sl Sy.SMod) (ts : Sl Sy.Tab) (w : World) (hs : FrmsOk w s) (hms : Sy.ModsOk w ms) (hts : Sy.TabsOk w ts) :
    Calls Tryz.prog 7 #[.slice s.A s.q s.c, .slice ms.A ms.q ms.c, .slice ts.A ts.q ts.c] w fun e w' => ∃ A c, e = .returned (.tuple #[.slice A (resE s ms ts).length c, .int .i64 (Sy.resNo (slTo s) ms ts)]) ∧
      w'.ownsRow w.heap.size 45 6 (.slice A (resE s ms ts).length c) (resE s ms ts).length ((resE s ms ts).flatMap Frm.enc) ∧ Below w.heap.size w w' := by
  have h := Sy.Resolve_any (slTo s) ms ts w hs.tu hms hts
  rw [resE, List.length_map, flat_of]; exact h
theorem resE_ok {w : World} {s : Sl Frm} {ms : Sl Sy.SMod} {ts : Sl Sy.Tab} (hts : Sy.TabsOk w ts) (h : Sy.resNo (slTo s) ms ts = 0) (A : Option Addr) (c : Nat) : framesNo ⟨A, (resE s ms ts).length, c, resE s ms ts⟩ = 0 ∧ (∀ f ∈ resE s ms ts, f.m.length ≤ 200 ∧ f.f.length ≤ 200 ∧ f.fi.length ≤ 200) ∧ (resE s ms ts).length ≤ 200 := by
  have h1 := res_frames hts h A c
  have h2 := (Sy.res_right hts h).2
  rw [resE, List.length_map]; exact ⟨h1.1, h1.2, h2⟩
def evW (e : Evt) (l : Sl Flt) : Evt := ⟨e.id, e.at_, e.lv, l, e.ta, e.cr, e.rel, e.us, e.wt⟩
theorem evW_ok {w : World} {e : Evt} {l : Sl Flt} (he : e.Ok w) (hl : FltsOk w l) : (evW e l).Ok w := ⟨hl, he.ta, he.cr, he.id, he.rel, he.us⟩
theorem fa_start {w : World} {e : Evt} (he : e.Ok w) (h : evNo e = 0) : 0 < e.fa.q ∧ e.fa.q ≤ 10 ∧ e.fa.l.length = e.fa.q ∧ e.fa.A.isSome = true ∧ ∀ f ∈ e.fa.l, fltNo f = 0 := by
  have hf : faultsNo e.fa = 0 := (fst_zero (fst_zero h).2).1
  obtain ⟨h1, h2, _⟩ := faultsNo_right he.fa hf
  refine ⟨h1, h2, he.fa.ok.t.len, he.fa.ok.t.isSome h1, ?_⟩
  unfold faultsNo at hf
  rw [if_neg (by omega), if_neg (by omega)] at hf
  exact flts_each hf
theorem ev2_zero {e : Evt} {A : Option Addr} {c : Nat} {l : List Flt} (h : evNo e = 0) (h1 : 0 < e.fa.q) (h2 : e.fa.q ≤ 10) (h3 : ∀ f ∈ l, fltNo f = 0) : faultsNo ⟨A, e.fa.q, c, l⟩ = 0 ∧ evNo (evW e ⟨A, e.fa.q, c, l⟩) = 0 := by
  have hf : faultsNo ⟨A, e.fa.q, c, l⟩ = 0 := by
    unfold faultsNo
    rw [if_neg (by show ¬ e.fa.q = 0; omega), if_neg (by show ¬ (10 : Int) < (e.fa.q : Int); omega)]
    exact flts_all h3
  refine ⟨hf, ?_⟩
  obtain ⟨a, h⟩ := fst_zero h
  obtain ⟨_, h⟩ := fst_zero h
  show fst (headNo e.id e.at_ e.lv) (fst (faultsNo ⟨A, e.fa.q, c, l⟩) _) = 0
  rw [a, hf, fst_f rfl, fst_f rfl]; exact h
theorem text_len {e : Evt} (h : textNo e = 0) : (textS e).length ≤ 1000000 := by
  rw [textS, if_pos h]
  obtain ⟨_, h2⟩ := fst_zero h
  split at h2
  · cases h2
  split at h2
  · cases h2
  · omega
theorem flt_same : ∀ {a b : List Flt}, a.map pfl = b.map pfl → eqLB Flt.eqB a b = true
  | [], [], _ => rfl
  | [], _ :: _, h => by simp at h
  | _ :: _, [], h => by simp at h
  | x :: r, y :: s, h => by
    simp only [List.map_cons, List.cons.injEq] at h
    obtain ⟨h1, h2⟩ := h
    simp only [pfl, PFl.mk.injEq] at h1
    rw [eqLB, flt_same h2, Flt.eqB, h1.1, h1.2.1, h1.2.2, eqL_refl (fun a => (Frm.eqB_iff a a).2 rfl)]
    simp
theorem same3 {e : Evt} {s : Sl Flt} {y : HdR} {A : Option Addr} {c : Nat} {l : List Flt} (h : l.map pfl = s.l.map pfl) : sameE (evW e s) (evOf (hdOf e) y A c l) = true := by
  have h1 : eqLB Flt.eqB (evW e s).fa.l (evOf (hdOf e) y A c l).fa.l = true := flt_same h.symm
  rw [sameE, h1]
  simp [evW, evOf, hdOf, eqL_refl (fun a => (STag.eqB_iff a a).2 rfl), eqL_refl (fun a => (SCrumb.eqB_iff a a).2 rfl)]
theorem ev3_ok {w w1 : World} {e : Evt} {y : HdR} {A : Option Addr} {c : Nat} {l : List Flt} (he : e.Ok w) (h1 : l.length ≤ 1000000) (f1 : Sl.Ok Flt.enc 3 w1 ⟨A, l.length, c, l⟩) (f2 : Sl.Ok STag.enc 2 w1 ⟨y.A, e.ta.l.length, y.c, e.ta.l⟩) (f3 : Sl.Ok SCrumb.enc 3 w1 ⟨y.B, e.cr.l.length, y.d, e.cr.l⟩)
    (hf : ∀ f ∈ l, FltOk w1 f) : (evOf (hdOf e) y A c l).Ok w1 :=
  ⟨⟨f1, by show l.length ≤ _; omega, hf⟩, ⟨f2, by show e.ta.l.length ≤ _; rw [he.ta.ok.t.len]; exact he.ta.q, he.ta.n⟩, ⟨f3, by show e.cr.l.length ≤ _; rw [he.cr.ok.t.len]; exact he.cr.q, he.cr.n⟩, he.id, he.rel, he.us⟩
theorem sees_step {w0 : World} {rs : List Row} {A A52 : Option Addr} {c c52 q : Nat} {l : List Flt} {i : Nat} {x : Flt} (h : Sees w0 rs fun w => FltsOk w ⟨A, q, c, l⟩) (hx : l[i]? = some x) (hl : l.length = q) (A45 : Option Addr) (c45 : Nat) (fr : List Frm)
    (hf : ∀ f ∈ fr, f.m.length ≤ 200 ∧ f.f.length ≤ 200 ∧ f.fi.length ≤ 200) (hq : fr.length ≤ 200) :
    Sees w0 (rs ++ [⟨45, 6, .slice A45 fr.length c45, fr.length, fr.flatMap Frm.enc⟩] ++ [⟨36, 3, .slice A52 q c52, q, (l.set i ⟨x.k, x.t, ⟨A45, fr.length, c45, fr⟩⟩).flatMap Flt.enc⟩])
      fun w => FltsOk w ⟨A52, q, c52, l.set i ⟨x.k, x.t, ⟨A45, fr.length, c45, fr⟩⟩⟩ := fun w hb hr => by
  have old := h w hb fun r h1 => hr r (List.mem_append_left _ (List.mem_append_left _ h1))
  refine ⟨row_ok (hr _ (List.mem_append_right _ (List.mem_singleton.2 rfl))) (by rw [List.length_set]; exact hl), old.q, fun f h1 => ?_⟩
  rcases List.mem_or_eq_of_mem_set h1 with h1 | rfl
  · exact old.n f h1
  · have hxo := old.n x (List.mem_of_getElem? hx)
    exact ⟨hxo.k, hxo.t, ⟨row_ok (hr _ (List.mem_append_left _ (List.mem_append_right _ (List.mem_singleton.2 rfl)))) rfl, by show fr.length ≤ _; omega, fun y hy => by
      have := hf y hy
      exact ⟨Nat.le_trans this.1 (by decide), Nat.le_trans this.2.1 (by decide), Nat.le_trans this.2.2 (by decide)⟩⟩⟩
set_option maxRecDepth 8000 in
set_option maxHeartbeats 3200000 in
theorem TopResolved_any (e : Evt) (ms : Sl Sy.SMod) (ts : Sl Sy.Tab) (w : World) (he : e.Ok w) (hms : Sy.ModsOk w ms) (hts : Sy.TabsOk w ts) (hP : P10 w) (hT : TzTab w) :
    Calls Tryz.prog 3 #[e.val, .slice ms.A ms.q ms.c, .slice ts.A ts.q ts.c] w fun en w' => en = .returned (.bool true) ∧ Below w.heap.size w w' := by
  refine enter_args (args := [.agg #[str e.id, .int .i64 e.at_, .int .i64 e.lv, .slice e.fa.A e.fa.q e.fa.c, .slice e.ta.A e.ta.q e.ta.c, .slice e.cr.A e.cr.q e.cr.c, str e.rel, str e.us, .int .i64 e.wt], .slice ms.A ms.q ms.c, .slice ts.A ts.q ts.c]) (F := _) Tryz.func3 rfl Tryz.ntmps3 rfl rfl ?_
  intro Rb hRb hRn
  refine T_many0 900 ?_
  refine tx ?_
  refine S_box 3 3 rfl rfl rfl rfl rfl ?_
  intro b3
  refine sr 1 ?_
  refine sgs ?_
  refine tx ?_
  refine s1 (y_call rfl rfl rfl cf5 (fun _ w1 _ => awakeT_any w1)) ?_
  refine sr 1 ?_
  refine sgo ?_
  refine T_cond rfl ?_ ?_ <;> intro h26
  · skip
    exact absurd h26 (by decide)
  refine kgs ?_
  refine tx ?_
  refine s1 (yA 3 rfl Tryz.underlying26 sz26) ?_
  refine s1 (y_call rfl rfl rfl cf6 (fun _ w1 hM => Check_any e w1 (he.below hM.below))) ?_
  refine sr 1 ?_
  refine sgo ?_
  refine T_cond rfl ?_ ?_ <;> intro h29
  · try simp only [nrm] at h29
    refine tx ?_
    refine sr 1 ?_
    refine sgo ?_
    refine tr1 hRb fun w hM => ?_
    exact ⟨rfl, hM.below⟩
  try simp only [nrm] at h29
  have hev : evNo e = 0 := h29
  obtain ⟨hq0, hq10, hql, hsm, hfl0⟩ := fa_start he hev
  refine kgs ?_
  refine tx ?_
  refine s1 (yF fa26_3) ?_
  refine s1 (yL 3 Tryz.underlying22) ?_
  refine s1 (y_len_slice rfl rfl Tryz.underlying22) ?_
  refine sr 1 ?_
  refine sgo ?_
  refine T_block ?_
  refine lK5 (kf := [(6, 9), (33, 60)]) (kl := [(3, 3), (6, 9), (33, 60), (900, 900)]) (fun (i : Nat) (A : Option Addr) (c : Nat) (l : List Flt) (rs : List Row) => [(33, true, .int .i64 (i : Int))]) (fun (i : Nat) (A : Option Addr) (c : Nat) (l : List Flt) (rs : List Row) => [(3, .blk b3 (IsBox [str e.id, .int .i64 e.at_, .int .i64 e.lv, .slice A e.fa.q c, .slice e.ta.A e.ta.q e.ta.c, .slice e.cr.A e.cr.q e.cr.c, str e.rel, str e.us, .int .i64 e.wt] 26)), (900, .many rs)]) (fun (i : Nat) (A : Option Addr) (c : Nat) (l : List Flt) (rs : List Row) => i ≤ e.fa.q ∧ l.length = e.fa.q ∧ A.isSome = true ∧ Sees w rs (fun w1 => FltsOk w1 ⟨A, e.fa.q, c, l⟩) ∧ ∀ f ∈ l, fltNo f = 0) (fun (i : Nat) (A : Option Addr) (c : Nat) (l : List Flt) (rs : List Row) => e.fa.q - i) 0 e.fa.A e.fa.c e.fa.l [] ?_ ?_ ?_ ?_
  · exact ⟨by omega, hql, hsm, fun w1 hb _ => he.fa.below hb, hfl0⟩
  · exact ⟨rfl, trivial⟩
  · exact ⟨rfl, rfl, trivial⟩
  rintro i A c l rs ⟨hp1, hp2, hp3, hp4, hp5⟩
  refine tx ?_
  refine sr 1 ?_
  refine sgs ?_
  refine T_cond rfl ?_ ?_ <;> intro h34
  · try simp only [nrm] at h34
    obtain ⟨x, hx1, hx2⟩ := at_lt (l := l) (i := i) (by omega)
    obtain ⟨hxr, hxn⟩ := flt_fr (hp5 x (mem_at hx1))
    refine kgs ?_
    refine T_block ?_
    refine tx ?_
    refine sr 2 ?_
    refine sgx ?_
    refine s1 (yF fa26_3) ?_
    refine s1 (yL 3 Tryz.underlying22) ?_
    refine sr 1 ?_
    refine s1 (y_indexAddr rfl rfl rfl Tryz.underlying22 sz36 (fun _ => hp3) (fun _ => by omega)) ?_
    refine s1 (y_fieldSome rfl rfl hp3 fa36_2) ?_
    refine s1 (y_load_fTM (off := 2) rfl rfl (fun w1 hM => (hp4.at hM 900 rfl).ok.t) (fun _ => rfl) hx1 rfl Tryz.underlying32 rfl) ?_
    refine sr 2 ?_
    refine S_callOwn 45 45 rfl rfl rfl rfl rfl rfl rfl cf7 (fun A c => .tuple #[.slice A (resE x.fr ms ts).length c, .int .i64 (Sy.resNo (slTo x.fr) ms ts)]) 45 6 ((resE x.fr ms ts).length) ((resE x.fr ms ts).flatMap Frm.enc) (fun w1 hM => ResolveE_any x.fr ms ts w1 ((hp4.at hM 900 rfl).n x (mem_at hx1)).fr (hms.below hM.below) (hts.below hM.below)) ?_
    intro A45 c45
    refine sr 5 ?_
    refine sgs ?_
    refine tx ?_
    refine sr 2 ?_
    refine sgo ?_
    refine T_cond rfl ?_ ?_ <;> intro h49
    · try simp only [nrm] at h49
      refine tx ?_
      refine sr 1 ?_
      refine sgo ?_
      refine tr1 hRb fun w hM => ?_
      exact ⟨rfl, hM.below⟩
    try simp only [nrm] at h49
    have hno : Sy.resNo (slTo x.fr) ms ts = 0 := h49
    refine kgx ?_
    refine s1 (yF fa26_3) ?_
    refine s1 (yL 3 Tryz.underlying22) ?_
    refine S_callOwn 52 52 rfl rfl rfl rfl rfl rfl rfl cf8 (fun A c => .slice A (e.fa.q) c) 36 3 (e.fa.q) (l.flatMap Flt.enc) (fun w1 hM => CloneFl_any ⟨A, e.fa.q, c, l⟩ w1 (hp4.at hM 900 rfl).ok (by show e.fa.q ≤ _; omega)) ?_
    intro A52 c52
    refine s1 (yF fa26_3) ?_
    refine S_store 3 rfl rfl rfl rfl rfl rfl sz22 rfl rfl ?_
    refine sgr ?_
    refine s1 (yF fa26_3) ?_
    refine s1 (yL 3 Tryz.underlying22) ?_
    refine sr 2 ?_
    refine s1 (y_indexOwn 52 rfl rfl rfl rfl Tryz.underlying22 sz36 (fun _ => by omega)) ?_
    refine s1 (y_fieldOwn 52 rfl rfl rfl (fun _ => by omega) fa36_2) ?_
    refine S_storeOwn 52 rfl rfl rfl rfl rfl rfl sz32 rfl rfl ?_ (xs' := ((l.set i (⟨x.k, x.t, ⟨A45, (resE x.fr ms ts).length, c45, resE x.fr ms ts⟩⟩ : Flt)).flatMap Flt.enc)) ?_ ?_
    · (rw [flat_lenN (enc := Flt.enc) (size := 3) (fun _ => rfl)]; omega)
    · exact flat_set (enc := Flt.enc) (size := 3) (off := 2) (fun _ => rfl) hx1 (by decide) rfl
    refine sgr ?_
    refine s1 (y_bin rfl rfl rfl (fun hg => b_add (by omega))) ?_
    refine sr 1 ?_
    refine S_known (p := A52.isSome = true) (fun w hM => own_some hM (i := 52) rfl (by omega)) fun hA52 => ?_
    obtain ⟨hr1, hr2, hr3⟩ := resE_ok hts hno A45 c45
    refine S_bank [(45, 45), (900, 900)] 900 45 rfl rfl rfl rfl (by repeat (first | exact kl_nil | exact kl_rest (by assumption) rfl | (apply kl_in; focus rfl) | (apply kl_out; focus rfl))) ?_
    refine S_bank [(52, 52), (900, 900)] 900 52 rfl rfl rfl rfl (by repeat (first | exact kl_nil | exact kl_rest (by assumption) rfl | (apply kl_in; focus rfl) | (apply kl_out; focus rfl))) ?_
    refine S_nil (nK5 (kf := [(6, 9), (33, 60)]) (kl := [(3, 3), (6, 9), (33, 60), (900, 900)]) (i + 1) A52 c52 (l.set i (⟨x.k, x.t, ⟨A45, (resE x.fr ms ts).length, c45, resE x.fr ms ts⟩⟩ : Flt)) (rs ++ [(⟨45, 6, .slice A45 (resE x.fr ms ts).length c45, (resE x.fr ms ts).length, (resE x.fr ms ts).flatMap Frm.enc⟩ : Row)] ++ [(⟨36, 3, .slice A52 e.fa.q c52, e.fa.q, (l.set i (⟨x.k, x.t, ⟨A45, (resE x.fr ms ts).length, c45, resE x.fr ms ts⟩⟩ : Flt)).flatMap Flt.enc⟩ : Row)]) ?_ ?_ ?_ ?_)
    · omega
    · exact ⟨by omega, by rw [List.length_set]; exact hp2, hA52, sees_step hp4 hx1 hp2 A45 c45 _ hr2 hr3, fun f hf => by
        rcases List.mem_or_eq_of_mem_set hf with h1 | rfl
        · exact hp5 f h1
        · exact hxn _ hr1⟩
    · exact ⟨rfl, trivial⟩
    · exact ⟨rfl, rfl, trivial⟩
  try simp only [nrm] at h34
  obtain ⟨hf2, hev2⟩ := ev2_zero (A := A) (c := c) hev hq0 hq10 hp5
  refine egs ?_
  refine tx ?_
  refine s1 (yA 3 rfl Tryz.underlying26 sz26) ?_
  refine s1 (y_call rfl rfl rfl cf6 (fun _ w1 hM => Check_any (evW e ⟨A, e.fa.q, c, l⟩) w1 (evW_ok (he.below hM.below) (hp4.at hM 900 rfl)))) ?_
  refine sr 1 ?_
  refine sgo ?_
  refine T_cond rfl ?_ ?_ <;> intro h63
  · try simp only [nrm] at h63
    exact absurd hev2 h63
  try simp only [nrm] at h63
  refine kgs ?_
  refine tx ?_
  refine s1 (yA 3 rfl Tryz.underlying26 sz26) ?_
  refine s1 (y_call rfl rfl rfl cf9 (fun _ w1 hM => eText_any (evW e ⟨A, e.fa.q, c, l⟩) w1 (evW_ok (he.below hM.below) (hp4.at hM 900 rfl)) (hP.below hM.below) (hT.below hM.below))) ?_
  refine sr 5 ?_
  refine sgx ?_
  refine sr 2 ?_
  refine sgo ?_
  refine T_cond rfl ?_ ?_ <;> intro h70
  · try simp only [nrm] at h70
    have h70 : textNo (evW e ⟨A, e.fa.q, c, l⟩) = 0 := h70
    refine T_knownP (p := readQ (textS (evW e ⟨A, e.fa.q, c, l⟩)) = (0, 0, hdOf e, l.map pfl) ∧ pNo (l.map pfl) = 0 ∧ ∀ f ∈ l, f.fr.q = f.fr.l.length) (fun w1 hM => ⟨event_back (evW_ok (he.below hM.below) (hp4.at hM 900 rfl)) h70, (evP_of (evW_ok (he.below hM.below) (hp4.at hM 900 rfl))).2.symm.trans hf2, fun f hf => ((hp4.at hM 900 rfl).n f hf).fr.ok.t.len.symm⟩) fun hrq => ?_
    refine tx ?_
    refine sr 1 ?_
    refine S_callN 73 [] [(900, 930), (904, 904), (906, 906), (907, 907)] (X := EvR) rfl rfl rfl rfl rfl rfl rfl cf10 rfl (fun z => .tuple #[(evOf (hdOf e) z.y z.x.A z.x.c z.x.l).val, .int .i64 0, .int .i64 0]) (EvOk w (l.map pfl)) (fun z => [(900, .many z.x.rs), (904, flI z.x.A z.x.c z.x.l), (906, tgI z.y.A z.y.c e.ta.l), (907, crI z.y.B z.y.d e.cr.l)]) (fun _ => rfl) (fun _ => rfl) (fun K1 hK1 w1 hM => by have h := eRead_any hK1 (textS (evW e ⟨A, e.fa.q, c, l⟩)) (by have := text_len h70; omega) w1 hM; rw [hrq.1] at h; exact h) ?_
    intro z hz
    have hzs : z.x.l.map pfl = l.map pfl := hz.says
    refine S_known (p := ∀ f ∈ z.x.l, f.fr.q = f.fr.l.length) (fun w1 hM f hf => ((hz.ok f hf).at hM 930 rfl).fr.ok.t.len.symm) fun hfq => ?_
    have hf3 : faultsNo ⟨z.x.A, z.x.l.length, z.x.c, z.x.l⟩ = 0 := (faultsNo_p hfq).trans (by rw [hzs]; exact hrq.2.1)
    refine sr 4 ?_
    refine S_alloc 12 12 rfl rfl rfl rfl z26 ?_
    intro b12
    refine S_store 12 rfl rfl rfl rfl rfl rfl sz26 rfl rfl ?_
    refine sr 2 ?_
    refine sgs ?_
    refine tx ?_
    refine sr 3 ?_
    refine sg rfl (yA 3 rfl Tryz.underlying26 sz26) ?_
    refine sg rfl (yA 12 rfl Tryz.underlying26 sz26) ?_
    refine sg rfl (y_as (v' := .bool true) (by rw [same3 (s := ⟨A, e.fa.q, c, l⟩) hzs]) (y_call rfl rfl rfl cf11 (fun _ w1 hM => Same_any (evW e ⟨A, e.fa.q, c, l⟩) (evOf (hdOf e) z.y z.x.A z.x.c z.x.l) w1 (evW_ok (he.below hM.below) (hp4.at hM 900 rfl)) (ev3_ok (y := z.y) (c := z.x.c) he hz.few (row_ok (hM.sat 904 _ rfl) rfl) (row_ok (hM.sat 906 _ rfl) rfl) (row_ok (hM.sat 907 _ rfl) rfl) (fun f hf => (hz.ok f hf).at hM 930 rfl))))) ?_
    refine sg rfl (y_not rfl rfl) ?_
    refine s1 (y_or rfl rfl rfl) ?_
    refine sgo ?_
    refine T_cond rfl ?_ ?_ <;> intro h84
    · skip
      exact absurd h84 (by decide)
    refine kgx ?_
    refine s1 (yF fa26_3) ?_
    refine s1 (yL 3 Tryz.underlying22) ?_
    refine s1 (y_call rfl rfl rfl cf12 (fun _ w1 hM => Print_any ⟨A, e.fa.q, c, l⟩ w1 (hp4.at hM 900 rfl) hf2 (hT.below hM.below))) ?_
    refine sr 5 ?_
    refine sgx ?_
    refine s1 (yF fa26_3) ?_
    refine s1 (yL 12 Tryz.underlying22) ?_
    refine s1 (y_as (v' := .tuple #[str (prS l), .int .i64 0]) (by rw [prS_same hzs]) (y_call rfl rfl rfl cf12 (fun _ w1 hM => Print_any ⟨z.x.A, z.x.l.length, z.x.c, z.x.l⟩ w1 (ev3_ok (y := z.y) (c := z.x.c) he hz.few (row_ok (hM.sat 904 _ rfl) rfl) (row_ok (hM.sat 906 _ rfl) rfl) (row_ok (hM.sat 907 _ rfl) rfl) (fun f hf => (hz.ok f hf).at hM 930 rfl)).fa hf3 (hT.below hM.below)))) ?_
    refine sr 5 ?_
    refine sgx ?_
    refine sr 3 ?_
    refine sg rfl (y_move rfl rfl) ?_
    refine sg rfl (y_bin rfl rfl rfl (fun _ => b_neq)) ?_
    refine s1 (y_or rfl rfl rfl) ?_
    refine sr 1 ?_
    refine sg rfl (y_move rfl rfl) ?_
    refine sg rfl (y_move rfl rfl) ?_
    refine sg rfl (y_bin rfl rfl rfl (fun _ => b_neqs)) ?_
    refine s1 (y_or rfl rfl rfl) ?_
    refine sgo ?_
    refine T_cond rfl ?_ ?_ <;> intro h107
    · skip
      simp at h107
    refine kgs ?_
    refine tx ?_
    refine s1 (yF fa26_3) ?_
    refine s1 (yL 3 Tryz.underlying22) ?_
    refine s1 (y_len_slice rfl rfl Tryz.underlying22) ?_
    refine sr 1 ?_
    refine sgo ?_
    refine T_block ?_
    refine lK1 (kf := [(6, 6), (20, 20), (22, 24), (111, 137)]) (kl := [(6, 6), (20, 20), (22, 24), (111, 137)]) (fun (k : Nat) => [(111, true, .int .i64 (k : Int))]) (fun (k : Nat) => []) (fun (k : Nat) => k ≤ e.fa.q) (fun (k : Nat) => e.fa.q - k) 0 ?_ ?_ ?_ ?_
    · omega
    · exact ⟨rfl, trivial⟩
    · exact trivial
    rintro k hk1
    refine tx ?_
    refine sr 1 ?_
    refine sgs ?_
    refine T_cond rfl ?_ ?_ <;> intro h112
    · try simp only [nrm] at h112
      obtain ⟨f, hf1, hfd⟩ := at_lt (l := l) (i := k) (by omega)
      refine T_knownP (p := f.fr.l.length = f.fr.q ∧ (0 < f.fr.q → f.fr.A.isSome = true)) (fun w1 hM => ⟨((hp4.at hM 900 rfl).n f (mem_at hf1)).fr.ok.t.len, fun h => ((hp4.at hM 900 rfl).n f (mem_at hf1)).fr.ok.t.isSome h⟩) fun hfi => ?_
      have hf200 := (frs_fr (flt_fr (hp5 f (mem_at hf1))).1).1
      have hff := frms_each (frs_fr (flt_fr (hp5 f (mem_at hf1))).1).2
      refine kgs ?_
      refine T_block ?_
      refine tx ?_
      refine s1 (y_indexAddr rfl rfl rfl Tryz.underlying22 sz36 (fun _ => hp3) (fun _ => by omega)) ?_
      refine s1 (y_loadTM rfl rfl (fun w1 hM => (hp4.at hM 900 rfl).ok.t) (fun _ => rfl) hf1 Tryz.underlying36 rfl sz36) ?_
      refine S_alloc 20 20 rfl rfl rfl rfl z36 ?_
      intro b20
      refine S_store 20 rfl rfl rfl rfl rfl rfl sz36 rfl rfl ?_
      refine sgx ?_
      refine s1 (yF fa36_2) ?_
      refine s1 (yL 20 Tryz.underlying32) ?_
      refine s1 (y_len_slice rfl rfl Tryz.underlying32) ?_
      refine sr 1 ?_
      refine sgo ?_
      refine T_block ?_
      refine lK1 (kf := [(6, 6), (22, 24), (118, 136)]) (kl := [(6, 6), (22, 24), (118, 136)]) (fun (j : Nat) => [(118, true, .int .i64 (j : Int))]) (fun (j : Nat) => []) (fun (j : Nat) => j ≤ f.fr.q) (fun (j : Nat) => f.fr.q - j) 0 ?_ ?_ ?_ ?_
      · omega
      · exact ⟨rfl, trivial⟩
      · exact trivial
      rintro j hj1
      refine tx ?_
      refine sr 1 ?_
      refine sgs ?_
      refine T_cond rfl ?_ ?_ <;> intro h119
      · try simp only [nrm] at h119
        obtain ⟨y, hy1, hyd⟩ := at_lt (l := f.fr.l) (i := j) (by omega)
        have hya := frm_ask (hff y (mem_at hy1))
        refine kgs ?_
        refine T_block ?_
        refine tx ?_
        refine s1 (y_indexAddr rfl rfl rfl Tryz.underlying32 sz45 (fun _ => hfi.2 (by omega)) (fun _ => by omega)) ?_
        refine s1 (y_loadTM rfl rfl (fun w1 hM => ((hp4.at hM 900 rfl).n f (mem_at hf1)).fr.ok.t) (fun _ => rfl) hy1 Tryz.underlying45 rfl sz45) ?_
        refine S_alloc 22 22 rfl rfl rfl rfl z45 ?_
        intro b22
        refine S_store 22 rfl rfl rfl rfl rfl rfl sz45 rfl rfl ?_
        refine sgx ?_
        refine s1 (yF fa45_1) ?_
        refine s1 (yL 22 Tryz.underlying9) ?_
        refine s1 (y_build (zv := .agg #[.int .i64 0, .slice none 0 0, .int .i64 0, .int .i64 0, .string ⟨#[]⟩, .string ⟨#[]⟩]) (pl := [(0, 1), (1, 1), (2, 1), (3, 1), (4, 1), (5, 1)]) (out := [_, .slice none 0 0, .int .i64 0, .int .i64 0, .string ⟨#[]⟩, _]) rfl rfl Tryz.underlying50 z50 (by kernel_rfl) rfl) ?_
        refine s1 (yA 3 rfl Tryz.underlying26 sz26) ?_
        refine s1 (y_as (v' := .tuple #[.bool true, .int .i64 0]) (by rw [fnd_self (e := (evW e ⟨A, e.fa.q, c, l⟩)) (mem_at hf1) (mem_at hy1)]) (y_call rfl rfl rfl cf13 (fun _ w1 hM => HoldsF_any y.f (evW e ⟨A, e.fa.q, c, l⟩) w1 hya.1 hya.2.1 hya.2.2 (evW_ok (he.below hM.below) (hp4.at hM 900 rfl)) hev2))) ?_
        refine sr 5 ?_
        refine sgx ?_
        refine sr 3 ?_
        refine sg rfl (y_move rfl rfl) ?_
        refine sg rfl (y_not rfl rfl) ?_
        refine s1 (y_or rfl rfl rfl) ?_
        refine sgo ?_
        refine T_cond rfl ?_ ?_ <;> intro h135
        · skip
          exact absurd h135 (by decide)
        refine kgr ?_
        refine s1 (y_bin rfl rfl rfl (fun hg => b_add (by omega))) ?_
        refine sr 1 ?_
        refine S_nil (nK1 (kf := [(6, 6), (22, 24), (118, 136)]) (kl := [(6, 6), (22, 24), (118, 136)]) (j + 1) ?_ ?_ ?_ ?_)
        · omega
        · omega
        · exact ⟨rfl, trivial⟩
        · exact trivial
      try simp only [nrm] at h119
      refine egr ?_
      refine s1 (y_bin rfl rfl rfl (fun hg => b_add (by omega))) ?_
      refine sr 1 ?_
      refine S_nil (nK1 (kf := [(6, 6), (20, 20), (22, 24), (111, 137)]) (kl := [(6, 6), (20, 20), (22, 24), (111, 137)]) (k + 1) ?_ ?_ ?_ ?_)
      · omega
      · omega
      · exact ⟨rfl, trivial⟩
      · exact trivial
    try simp only [nrm] at h112
    refine egx ?_
    refine sr 1 ?_
    refine sgo ?_
    refine tr1 hRb fun w hM => ?_
    exact ⟨rfl, hM.below⟩
  try simp only [nrm] at h70
  refine kgs ?_
  refine tx ?_
  refine s1 (yF fa26_3) ?_
  refine s1 (yL 3 Tryz.underlying22) ?_
  refine s1 (y_len_slice rfl rfl Tryz.underlying22) ?_
  refine sr 1 ?_
  refine sgo ?_
  refine T_block ?_
  refine lK1 (kf := [(6, 6), (20, 20), (22, 24), (111, 137)]) (kl := [(6, 6), (20, 20), (22, 24), (111, 137)]) (fun (k : Nat) => [(111, true, .int .i64 (k : Int))]) (fun (k : Nat) => []) (fun (k : Nat) => k ≤ e.fa.q) (fun (k : Nat) => e.fa.q - k) 0 ?_ ?_ ?_ ?_
  · omega
  · exact ⟨rfl, trivial⟩
  · exact trivial
  rintro k hk1
  refine tx ?_
  refine sr 1 ?_
  refine sgs ?_
  refine T_cond rfl ?_ ?_ <;> intro h112
  · try simp only [nrm] at h112
    obtain ⟨f, hf1, hfd⟩ := at_lt (l := l) (i := k) (by omega)
    refine T_knownP (p := f.fr.l.length = f.fr.q ∧ (0 < f.fr.q → f.fr.A.isSome = true)) (fun w1 hM => ⟨((hp4.at hM 900 rfl).n f (mem_at hf1)).fr.ok.t.len, fun h => ((hp4.at hM 900 rfl).n f (mem_at hf1)).fr.ok.t.isSome h⟩) fun hfi => ?_
    have hf200 := (frs_fr (flt_fr (hp5 f (mem_at hf1))).1).1
    have hff := frms_each (frs_fr (flt_fr (hp5 f (mem_at hf1))).1).2
    refine kgs ?_
    refine T_block ?_
    refine tx ?_
    refine s1 (y_indexAddr rfl rfl rfl Tryz.underlying22 sz36 (fun _ => hp3) (fun _ => by omega)) ?_
    refine s1 (y_loadTM rfl rfl (fun w1 hM => (hp4.at hM 900 rfl).ok.t) (fun _ => rfl) hf1 Tryz.underlying36 rfl sz36) ?_
    refine S_alloc 20 20 rfl rfl rfl rfl z36 ?_
    intro b20
    refine S_store 20 rfl rfl rfl rfl rfl rfl sz36 rfl rfl ?_
    refine sgx ?_
    refine s1 (yF fa36_2) ?_
    refine s1 (yL 20 Tryz.underlying32) ?_
    refine s1 (y_len_slice rfl rfl Tryz.underlying32) ?_
    refine sr 1 ?_
    refine sgo ?_
    refine T_block ?_
    refine lK1 (kf := [(6, 6), (22, 24), (118, 136)]) (kl := [(6, 6), (22, 24), (118, 136)]) (fun (j : Nat) => [(118, true, .int .i64 (j : Int))]) (fun (j : Nat) => []) (fun (j : Nat) => j ≤ f.fr.q) (fun (j : Nat) => f.fr.q - j) 0 ?_ ?_ ?_ ?_
    · omega
    · exact ⟨rfl, trivial⟩
    · exact trivial
    rintro j hj1
    refine tx ?_
    refine sr 1 ?_
    refine sgs ?_
    refine T_cond rfl ?_ ?_ <;> intro h119
    · try simp only [nrm] at h119
      obtain ⟨y, hy1, hyd⟩ := at_lt (l := f.fr.l) (i := j) (by omega)
      have hya := frm_ask (hff y (mem_at hy1))
      refine kgs ?_
      refine T_block ?_
      refine tx ?_
      refine s1 (y_indexAddr rfl rfl rfl Tryz.underlying32 sz45 (fun _ => hfi.2 (by omega)) (fun _ => by omega)) ?_
      refine s1 (y_loadTM rfl rfl (fun w1 hM => ((hp4.at hM 900 rfl).n f (mem_at hf1)).fr.ok.t) (fun _ => rfl) hy1 Tryz.underlying45 rfl sz45) ?_
      refine S_alloc 22 22 rfl rfl rfl rfl z45 ?_
      intro b22
      refine S_store 22 rfl rfl rfl rfl rfl rfl sz45 rfl rfl ?_
      refine sgx ?_
      refine s1 (yF fa45_1) ?_
      refine s1 (yL 22 Tryz.underlying9) ?_
      refine s1 (y_build (zv := .agg #[.int .i64 0, .slice none 0 0, .int .i64 0, .int .i64 0, .string ⟨#[]⟩, .string ⟨#[]⟩]) (pl := [(0, 1), (1, 1), (2, 1), (3, 1), (4, 1), (5, 1)]) (out := [_, .slice none 0 0, .int .i64 0, .int .i64 0, .string ⟨#[]⟩, _]) rfl rfl Tryz.underlying50 z50 (by kernel_rfl) rfl) ?_
      refine s1 (yA 3 rfl Tryz.underlying26 sz26) ?_
      refine s1 (y_as (v' := .tuple #[.bool true, .int .i64 0]) (by rw [fnd_self (e := (evW e ⟨A, e.fa.q, c, l⟩)) (mem_at hf1) (mem_at hy1)]) (y_call rfl rfl rfl cf13 (fun _ w1 hM => HoldsF_any y.f (evW e ⟨A, e.fa.q, c, l⟩) w1 hya.1 hya.2.1 hya.2.2 (evW_ok (he.below hM.below) (hp4.at hM 900 rfl)) hev2))) ?_
      refine sr 5 ?_
      refine sgx ?_
      refine sr 3 ?_
      refine sg rfl (y_move rfl rfl) ?_
      refine sg rfl (y_not rfl rfl) ?_
      refine s1 (y_or rfl rfl rfl) ?_
      refine sgo ?_
      refine T_cond rfl ?_ ?_ <;> intro h135
      · skip
        exact absurd h135 (by decide)
      refine kgr ?_
      refine s1 (y_bin rfl rfl rfl (fun hg => b_add (by omega))) ?_
      refine sr 1 ?_
      refine S_nil (nK1 (kf := [(6, 6), (22, 24), (118, 136)]) (kl := [(6, 6), (22, 24), (118, 136)]) (j + 1) ?_ ?_ ?_ ?_)
      · omega
      · omega
      · exact ⟨rfl, trivial⟩
      · exact trivial
    try simp only [nrm] at h119
    refine egr ?_
    refine s1 (y_bin rfl rfl rfl (fun hg => b_add (by omega))) ?_
    refine sr 1 ?_
    refine S_nil (nK1 (kf := [(6, 6), (20, 20), (22, 24), (111, 137)]) (kl := [(6, 6), (20, 20), (22, 24), (111, 137)]) (k + 1) ?_ ?_ ?_ ?_)
    · omega
    · omega
    · exact ⟨rfl, trivial⟩
    · exact trivial
  try simp only [nrm] at h112
  refine egx ?_
  refine sr 1 ?_
  refine sgo ?_
  refine tr1 hRb fun w hM => ?_
  exact ⟨rfl, hM.below⟩
end Go.Proofs.YtgbldojgbpgjbaaGreatDoor
end
section
namespace Go.Proofs.YtgbldojgbpgjbaaGreatDoor.Sy
set_option linter.unusedSimpArgs false
set_option linter.unusedVariables false
set_option maxRecDepth 20000
open Go.RowKit Go.Eng
section
variable {H : Type} {enc : TypeId × Value → H} {w : World}
def IntOk (n : Int) : Prop := (Lit.int .i64 n).wf = true
def ShortS (s : List UInt8) : Prop := s.length ≤ reachBytes
def strD (l : List UInt8) (d : DataW H) : Prop := d = .lit (.string l)
def intD (n : Int) (d : DataW H) : Prop := d = .lit (.int .i64 n)
theorem op_s : Opn enc Tryz.prog w 9 strEnc ShortS (strD (H := H)) := opn_str Tryz.underlying9
theorem op_i : Opn enc Tryz.prog w 3 (fun n : Int => [Value.int .i64 n]) IntOk (intD (H := H)) := opn_int Tryz.underlying3
def slV {X : Type} (s : Sl X) : List Value := [.slice s.A s.q s.c]
def slG {X : Type} (e : X → List Value) (size : Nat) (G : X → Prop) (w : World) (s : Sl X) : Prop := s.Ok e size w ∧ s.q ≤ reachBytes ∧ ∀ a ∈ s.l, G a
def funcG (f : SFunc) : Prop := ShortS f.name ∧ IntOk f.fr ∧ IntOk f.tu
def funcD (f : SFunc) (d : DataW H) : Prop := ∃ d1 d2 d3, d = .agg [d1, d2, d3] ∧ strD f.name d1 ∧ intD f.fr d2 ∧ intD f.tu d3
theorem op_func : Opn enc Tryz.prog w 193 SFunc.enc funcG (funcD (H := H)) :=
  (opn_struct Tryz.underlying193 co193 (opf_cons op_s rfl co9 (opf_cons op_i rfl co3 (opf_cons op_i rfl co3 opf_nil)))).map (fun p => (⟨p.1, p.2.1, p.2.2.1⟩ : SFunc)) (fun _ => rfl)
    (fun _ h => ⟨h.1, h.2.1, h.2.2.1⟩) (fun p d h => by obtain ⟨_, rfl, d1, _, rfl, h1, d2, _, rfl, h2, d3, _, rfl, h3, rfl⟩ := h; exact ⟨d1, d2, d3, rfl, h1, h2, h3⟩)
def rowG (f : SRow) : Prop := IntOk f.pos ∧ IntOk f.fi ∧ IntOk f.ln
def rowD (f : SRow) (d : DataW H) : Prop := ∃ d1 d2 d3, d = .agg [d1, d2, d3] ∧ intD f.pos d1 ∧ intD f.fi d2 ∧ intD f.ln d3
theorem op_row : Opn enc Tryz.prog w 242 SRow.enc rowG (rowD (H := H)) :=
  (opn_struct Tryz.underlying242 co242 (opf_cons op_i rfl co3 (opf_cons op_i rfl co3 (opf_cons op_i rfl co3 opf_nil)))).map (fun p => (⟨p.1, p.2.1, p.2.2.1⟩ : SRow)) (fun _ => rfl)
    (fun _ h => ⟨h.1, h.2.1, h.2.2.1⟩) (fun p d h => by obtain ⟨_, rfl, d1, _, rfl, h1, d2, _, rfl, h2, d3, _, rfl, h3, rfl⟩ := h; exact ⟨d1, d2, d3, rfl, h1, h2, h3⟩)
def callG (f : SCall) : Prop := ShortS f.name ∧ IntOk f.fr ∧ IntOk f.tu ∧ IntOk f.fi ∧ IntOk f.ln
def callD (f : SCall) (d : DataW H) : Prop := ∃ d1 d2 d3 d4 d5, d = .agg [d1, d2, d3, d4, d5] ∧ strD f.name d1 ∧ intD f.fr d2 ∧ intD f.tu d3 ∧ intD f.fi d4 ∧ intD f.ln d5
theorem op_call : Opn enc Tryz.prog w 191 SCall.enc callG (callD (H := H)) :=
  (opn_struct Tryz.underlying191 co191 (opf_cons op_s rfl co9 (opf_cons op_i rfl co3 (opf_cons op_i rfl co3 (opf_cons op_i rfl co3 (opf_cons op_i rfl co3 opf_nil)))))).map (fun p => (⟨p.1, p.2.1, p.2.2.1, p.2.2.2.1, p.2.2.2.2.1⟩ : SCall)) (fun _ => rfl)
    (fun _ h => ⟨h.1, h.2.1, h.2.2.1, h.2.2.2.1, h.2.2.2.2.1⟩) (fun p d h => by obtain ⟨_, rfl, d1, _, rfl, h1, d2, _, rfl, h2, d3, _, rfl, h3, d4, _, rfl, h4, d5, _, rfl, h5, rfl⟩ := h; exact ⟨d1, d2, d3, d4, d5, rfl, h1, h2, h3, h4, h5⟩)
def modG (f : SMod) : Prop := ShortS f.name ∧ ShortS f.id ∧ IntOk f.fr ∧ IntOk f.tu
def modD (f : SMod) (d : DataW H) : Prop := ∃ d1 d2 d3 d4, d = .agg [d1, d2, d3, d4] ∧ strD f.name d1 ∧ strD f.id d2 ∧ intD f.fr d3 ∧ intD f.tu d4
theorem op_mod : Opn enc Tryz.prog w 125 SMod.enc modG (modD (H := H)) :=
  (opn_struct Tryz.underlying125 co125 (opf_cons op_s rfl co9 (opf_cons op_s rfl co9 (opf_cons op_i rfl co3 (opf_cons op_i rfl co3 opf_nil))))).map (fun p => (⟨p.1, p.2.1, p.2.2.1, p.2.2.2.1⟩ : SMod)) (fun _ => rfl)
    (fun _ h => ⟨h.1, h.2.1, h.2.2.1, h.2.2.2.1⟩) (fun p d h => by obtain ⟨_, rfl, d1, _, rfl, h1, d2, _, rfl, h2, d3, _, rfl, h3, d4, _, rfl, h4, rfl⟩ := h; exact ⟨d1, d2, d3, d4, rfl, h1, h2, h3, h4⟩)
theorem op_files : Opn enc Tryz.prog w 53 slV (slG strEnc 1 ShortS w) (SlRel (strD (H := H))) := opn_slice Tryz.underlying53 co9 (by decide) (by rw [bo9]; decide) (fun _ => rfl) op_s
theorem op_funcs : Opn enc Tryz.prog w 115 slV (slG SFunc.enc 3 funcG w) (SlRel (funcD (H := H))) := opn_slice Tryz.underlying115 co193 (by decide) (by rw [bo193]; decide) (fun _ => rfl) op_func
theorem op_rows : Opn enc Tryz.prog w 116 slV (slG SRow.enc 3 rowG w) (SlRel (rowD (H := H))) := opn_slice Tryz.underlying116 co242 (by decide) (by rw [bo242]; decide) (fun _ => rfl) op_row
theorem op_calls : Opn enc Tryz.prog w 117 slV (slG SCall.enc 5 callG w) (SlRel (callD (H := H))) := opn_slice Tryz.underlying117 co191 (by decide) (by rw [bo191]; decide) (fun _ => rfl) op_call
theorem op_mods : Opn enc Tryz.prog w 27 slV (slG SMod.enc 4 modG w) (SlRel (modD (H := H))) := opn_slice Tryz.underlying27 co125 (by decide) (by rw [bo125]; decide) (fun _ => rfl) op_mod
theorem reach_len : reachBytes ≤ 4611686018427387904 := by decide
def tabD (t : Tab) (d : DataW H) : Prop := ∃ d1 d2 d3 d4 d5 d6, d = .agg [d1, d2, d3, d4, d5, d6] ∧ strD t.id d1 ∧ intD t.size d2 ∧ SlRel strD t.fi d3 ∧ SlRel funcD t.fu d4 ∧ SlRel rowD t.ro d5 ∧ SlRel callD t.ca d6
theorem op_tab : Opn enc Tryz.prog w 119 Tab.enc (Tab.Ok w) (tabD (H := H)) :=
  (opn_struct Tryz.underlying119 co119 (opf_cons op_s rfl co9 (opf_cons op_i rfl co3 (opf_cons op_files rfl co53 (opf_cons op_funcs rfl co115 (opf_cons op_rows rfl co116 (opf_cons op_calls rfl co117 opf_nil))))))).map
    (fun p => (⟨p.1, p.2.1, p.2.2.1, p.2.2.2.1, p.2.2.2.2.1, p.2.2.2.2.2.1⟩ : Tab)) (fun _ => rfl)
    (fun p h => by
      obtain ⟨h1, _, h3, h4, h5, h6, _⟩ := h
      have := reach_len
      exact ⟨h3.1, h4.1, h5.1, h6.1, ⟨Nat.le_trans h1 this, Nat.le_trans h3.2.1 this, Nat.le_trans h4.2.1 this, Nat.le_trans h5.2.1 this, Nat.le_trans h6.2.1 this⟩,
        fun s hs => Nat.le_trans (h3.2.2 s hs) this, fun f hf => Nat.le_trans (h4.2.2 f hf).1 this, fun f hf => Nat.le_trans (h6.2.2 f hf).1 this⟩)
    (fun p d h => by obtain ⟨_, rfl, d1, _, rfl, h1, d2, _, rfl, h2, d3, _, rfl, h3, d4, _, rfl, h4, d5, _, rfl, h5, d6, _, rfl, h6, rfl⟩ := h; exact ⟨d1, d2, d3, d4, d5, d6, rfl, h1, h2, h3, h4, h5, h6⟩)
end
end Go.Proofs.YtgbldojgbpgjbaaGreatDoor.Sy
end
section
namespace Go.Proofs.YtgbldojgbpgjbaaGreatDoor.Sy
set_option linter.unusedSimpArgs false
set_option linter.unusedVariables false
set_option maxRecDepth 20000
open Go.RowKit Go.Eng
section
variable {H : Type} {enc : TypeId × Value → H} {w : World}
theorem op_modl : Opn enc Tryz.prog w 27 slV (ModsOk w) (fun _ _ => True) :=
  op_mods.map (fun s => s) (fun _ => rfl) (fun s h => ⟨h.1, Nat.le_trans h.2.1 reach_len, fun f hf => ⟨Nat.le_trans (h.2.2 f hf).1 reach_len, Nat.le_trans (h.2.2 f hf).2.1 reach_len⟩⟩) (fun _ _ _ => trivial)
theorem op_tabs : Opn enc Tryz.prog w 28 slV (TabsOk w) (fun _ _ => True) :=
  (opn_slice Tryz.underlying28 co119 (by decide) (by rw [bo119]; decide) (fun _ => rfl) op_tab).map (fun s => s) (fun _ => rfl)
    (fun s h => ⟨h.1, Nat.le_trans h.2.1 reach_len, h.2.2⟩) (fun _ _ _ => trivial)
end
end Go.Proofs.YtgbldojgbpgjbaaGreatDoor.Sy
end
section
namespace Go.Proofs.YtgbldojgbpgjbaaGreatDoor
set_option linter.unusedSimpArgs false
set_option linter.unusedVariables false
set_option maxRecDepth 20000
open Go.ChangeShapes Go.WideShapes Go.RowKit
theorem ownNone : ownKnob Tryz.prog.godebug = none := by kernel_rfl
theorem laidOut : laidOutB Tryz.prog = true := by kernel_rfl
def firstCells : Array Value := (Go.Pinned.utf8FirstZ.map fun n : Nat => Value.int .u8 (n : Int)).toArray
def tabCells (k : IntKind) (zs : List Int) : Array Value := (zs.map fun n => Value.int k n).toArray
def rangeZ : List Int := [128, 191, 160, 191, 128, 159, 144, 191, 128, 143, 0, 0, 0, 0, 0, 0, 0, 0, 0, 0, 0, 0, 0, 0, 0, 0, 0, 0, 0, 0, 0, 0]
def tz32Z : List Int := [0, 1, 28, 2, 29, 14, 24, 3, 30, 22, 20, 15, 25, 17, 4, 8, 31, 27, 13, 23, 21, 19, 16, 7, 26, 12, 18, 6, 11, 5, 10, 9]
def tz64Z : List Int := [0, 1, 56, 2, 57, 49, 28, 3, 61, 58, 42, 50, 38, 29, 17, 4, 62, 47, 59, 36, 45, 43, 51, 22, 53, 39, 33, 30, 24, 18, 12, 5, 63, 55, 48, 27, 60, 41, 37, 16, 46, 35, 44, 21, 52, 32, 23, 11, 54, 26, 40, 15, 34, 20, 31, 10, 25, 14, 19, 9, 13, 8, 7, 6]
def pow10Z : List Int := [1, 10, 100, 1000, 10000, 100000, 1000000, 10000000, 100000000, 1000000000, 10000000000, 100000000000, 1000000000000, 10000000000000, 100000000000000, 1000000000000000, 10000000000000000, 100000000000000000, 1000000000000000000, 10000000000000000000]
def layCells (cs : Array Value) : Obj → Obj
  | .cells _ t frozen => .cells cs t frozen
  | o => o
theorem tz_of {x : String × DataW Unit} {rest : List (String × DataW Unit)} {W : World} (h : laidMet Tryz.prog (x :: ("math/bits.deBruijn64tab", Rows.laid_math_bits_deBruijn64tab) :: rest) W) : TzTab W := by
  have h1 : laidMet Tryz.prog (("math/bits.deBruijn64tab", Lib.tabData .u8 tz64Z) :: rest) W := h.tail
  have h2 := (Lib.tabIs_of_head (P := Tryz.prog) (g := 5) (by kernel_rfl) (by kernel_rfl) Tryz.underlying324 Tryz.underlying5 (by kernel_rfl) (by kernel_rfl) h1).cell (g := 5) (by kernel_rfl) 15 (by decide)
  refine ⟨h2, ?_⟩
  unfold World.cell? at h2
  cases hg : W.heap[5]? with
  | none => rw [hg] at h2; cases h2
  | some o => exact (Array.getElem?_eq_some_iff.1 hg).1
end Go.Proofs.YtgbldojgbpgjbaaGreatDoor
end
section
namespace Go.Proofs.YtgbldojgbpgjbaaGreatDoor
set_option linter.unusedSimpArgs false
set_option linter.unusedVariables false
set_option maxRecDepth 20000
open Go.ChangeShapes Go.WideShapes Go.RowKit
noncomputable def low2 : Nat := (World.holding Tryz.prog default ⟨#[], #[], []⟩).heap.size
def rangeT : List UInt8 := [118, 97, 108, 117, 101, 32, 111, 117, 116, 32, 111, 102, 32, 114, 97, 110, 103, 101]
def syntaxT : List UInt8 := [105, 110, 118, 97, 108, 105, 100, 32, 115, 121, 110, 116, 97, 120]
noncomputable def laidWorld2 (os : Os) (args : Array Value) : World :=
  { World.holding Tryz.prog os ⟨#[.cells #[.string ⟨rangeT.toArray⟩] 332, .cells #[.string ⟨syntaxT.toArray⟩] 332], args, []⟩ with heap := (((((((World.holding Tryz.prog os ⟨#[.cells #[.string ⟨rangeT.toArray⟩] 332, .cells #[.string ⟨syntaxT.toArray⟩] 332], args, []⟩).heap.modify 2 (layCells firstCells)).modify 3 (layCells (tabCells .u8 rangeZ))).modify 4 (layCells (tabCells .u8 tz32Z))).modify 5 (layCells (tabCells .u8 tz64Z))).modify 1 (layCells (tabCells .u64 pow10Z))).modify 7 (layCells #[.iface 330 (.pointer (some ⟨low2, 0, none⟩))])).modify 6 (layCells #[.iface 330 (.pointer (some ⟨low2 + 1, 0, none⟩))]) }
end Go.Proofs.YtgbldojgbpgjbaaGreatDoor
end
