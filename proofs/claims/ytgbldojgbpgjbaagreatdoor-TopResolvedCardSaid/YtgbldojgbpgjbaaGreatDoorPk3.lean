/- Part 3, merged by a program. Faults written as a text: lines of frames, of heads, of what is shared; how long they are. Conditions: those of each theorem. group.Digest: the digest of parts. Condition: the table of trailing noughts holds Go's numbers. group.Plain: a text without its numbers. Conditions: those of each theorem. Marked frames in plain lists; rows of the many with one taken out. No program in sight. (*group.marking).show with no rules. Conditions: those of each theorem. group.mark with no rules. Conditions: those of each theorem. group.partsOf, Parts and Print with no rules. Conditions: those of each theorem. The two range tests and the comparison of a result and an error with those expected. No condition. Words, frames, names and ids: what the program and the reference say of them. No condition. Frames and names: CheckFrame, checkName and what the reference has in their places. No condition beyond lengths that a machine can hold. Tables, modules, and the searches in them. Conditions: those of each theorem (a slice lies in memory, its length is a machine's). The faults of files, functions, rows, calls, tables and modules, in plain lists. No program in sight. The program's checks of tables and modules. Conditions: those of each theorem. Frames: checkFrames, Cut at most 200, and the reference's FramesFault. Conditions: those of each theorem. The checks of calls, of the program and of the reference; the reference's functions. Conditions: those of each theorem. The reference's faults of tables and modules. Conditions: those of each theorem. symbol.Lines: the spans of a file's line. Conditions: those of each theorem. FuncAt, ModuleAt and what the reference has in their places. symbol.At: the places of an offset. Conditions: those of each theorem. What a right table keeps: rows rise, files are there. No program in sight. rowAt: the file and the line of an offset by rows. Condition: the table is right. symbol.at and symbol.At: the places of an offset. Conditions: those of each theorem. symbol.At. The reference's places of an offset are those of symbol.at. No program in sight. Lists of tables: checkAll, and the places of a frame. Conditions: those of each theorem. The places of a frame, Resolve and Missing. Conditions: those of each theorem. Resolve and Missing. Conditions: those of each theorem. -/
import Derived.Test.YtgbldojgbpgjbaaGreatDoorZip
import Derived.Test.YtgbldojgbpgjbaaGreatDoorTail
import Derived.Test.YtgbldojgbpgjbaaGreatDoorUnb
import Derived.Test.YtgbldojgbpgjbaaGreatDoorLem
import Derived.Test.YtgbldojgbpgjbaaGreatDoorShelf
import Derived.Shelf.Strings.SlTrimAscii
import Derived.Test.YtgbldojgbpgjbaaGreatDoorApp
import Derived.Test.YtgbldojgbpgjbaaGreatDoorOwn
import Derived.Test.YtgbldojgbpgjbaaGreatDoorOpen
import Derived.Test.YtgbldojgbpgjbaaGreatDoorPk2
section
namespace Go.Proofs.YtgbldojgbpgjbaaGreatDoor
set_option linter.unusedSimpArgs false
set_option linter.unusedVariables false
set_option maxRecDepth 20000
open Go.RowKit Go.Eng
def frameT (x : Frm) : List UInt8 := atB ++ callT x ++ placeT x ++ [10]
def shW : Option (List Frm) → List Frm → Nat
  | none, _ => 0
  | some p, fr => shQ p fr
def sh2 (n : Nat) : Nat := if n < 2 then 0 else n
def dotT (n : Nat) : List UInt8 := if n = 0 then [] else dotB ++ Lib.itoa (n : Int) ++ moreB ++ [10]
def preT : Option (List Frm) → List UInt8
  | none => []
  | some _ => causeB
def frmsT (p : Option (List Frm)) (fr : List Frm) : List UInt8 := (fr.take (fr.length - sh2 (shW p fr))).flatMap frameT
def oneT (p : Option (List Frm)) (f : PFl) : List UInt8 := preT p ++ headT f.k f.t ++ frmsT p f.fr ++ dotT (sh2 (shW p f.fr))
def writeT : Option (List Frm) → List PFl → List UInt8
  | _, [] => []
  | p, f :: r => oneT p f ++ writeT (some f.fr) r
def prevP (l : List Flt) (i : Nat) : Option (List Frm) := if i = 0 then none else (l[i - 1]?).map fun f => f.fr.l
theorem prevP_next {l : List Flt} {i : Nat} {x : Flt} (h : l[i]? = some x) : prevP l (i + 1) = some x.fr.l := by
  rw [prevP, if_neg (by omega), Nat.add_sub_cancel, h]; rfl
theorem prevP_pos {l : List Flt} {i : Nat} {y : Flt} (h0 : 0 < i) (h : l[i - 1]? = some y) : prevP l i = some y.fr.l := by
  rw [prevP, if_neg (by omega), h]; rfl
theorem writeT_cons {p : Option (List Frm)} {l : List Flt} {i : Nat} {x : Flt} (h : l.drop i = x :: l.drop (i + 1)) : writeT p ((l.drop i).map pfl) = oneT p (pfl x) ++ writeT (some x.fr.l) ((l.drop (i + 1)).map pfl) := by
  rw [h]; rfl
theorem sh2_le (n : Nat) : sh2 n ≤ n := by unfold sh2; split <;> omega
theorem shW_le (p : Option (List Frm)) (fr : List Frm) : shW p fr ≤ fr.length := by
  cases p with
  | none => exact Nat.zero_le _
  | some l => exact (shQ_le l fr).2
structure FlN (f : Flt) : Prop where
  k : f.k.length ≤ 1000000
  t : f.t.length ≤ 1000000
  q : f.fr.l.length ≤ 200
  n : ∀ x ∈ f.fr.l, FrN x
theorem callT_le {x : Frm} (h : FrS 1000000 x) : (callT x).length ≤ 2000001 := by
  obtain ⟨h1, h2, h3⟩ := h
  unfold callT
  split
  · omega
  · simp only [List.length_append, List.length_singleton]; omega
theorem placeT_le {x : Frm} (h : FrN x) : (placeT x).length ≤ 1002102 := by
  have h1 := fileT_le x h.s.2.2 h.ln
  have h2 := addrT_le x h.ad
  unfold placeT
  split <;> simp only [List.length_append, List.length_cons, List.length_nil] <;> omega
theorem frameT_le {x : Frm} (h : FrN x) : (frameT x).length ≤ 4000000 := by
  have h1 := callT_le h.s
  have h2 := placeT_le h
  unfold frameT
  simp only [List.length_append, List.length_cons, List.length_nil]; omega
theorem frames_le : ∀ {l : List Frm}, (∀ x ∈ l, FrN x) → (l.flatMap frameT).length ≤ l.length * 4000000
  | [], _ => Nat.zero_le _
  | x :: r, h => by
    have h1 := frameT_le (h x (List.mem_cons_self ..))
    have h2 := frames_le fun y hy => h y (List.mem_cons_of_mem _ hy)
    rw [List.flatMap_cons, List.length_append, List.length_cons]; omega
theorem headT_le {k t : List UInt8} (h1 : k.length ≤ 1000000) (h2 : t.length ≤ 1000000) : (headT k t).length ≤ 2000003 := by
  unfold headT
  split <;> simp only [List.length_append, List.length_cons, List.length_nil] <;> omega
theorem dotT_le {n : Nat} (h : n ≤ 200) : (dotT n).length ≤ 2000 := by
  have := itoa_le (n : Int) (by omega)
  unfold dotT
  split <;> simp only [List.length_append, List.length_cons, List.length_nil] <;> omega
theorem preT_le (p : Option (List Frm)) : (preT p).length ≤ 11 := by
  cases p <;> simp [preT]
theorem frmsT_le {p : Option (List Frm)} {f : Flt} (h : FlN f) : (frmsT p f.fr.l).length ≤ 800000000 := by
  have h1 := frames_le (l := f.fr.l.take (f.fr.l.length - sh2 (shW p f.fr.l))) fun x hx => h.n x (List.mem_of_mem_take hx)
  have h2 : (f.fr.l.take (f.fr.l.length - sh2 (shW p f.fr.l))).length ≤ 200 := by rw [List.length_take]; have := h.q; omega
  unfold frmsT
  omega
theorem oneT_le {p : Option (List Frm)} {f : Flt} (h : FlN f) : (oneT p (pfl f)).length ≤ 900000000 := by
  have h1 := preT_le p
  have h2 := headT_le h.k h.t
  have h3 := frmsT_le (p := p) h
  have h4 := sh2_le (shW p f.fr.l)
  have h5 := shW_le p f.fr.l
  have h6 := dotT_le (n := sh2 (shW p f.fr.l)) (by have := h.q; omega)
  show (preT p ++ headT f.k f.t ++ frmsT p f.fr.l ++ dotT (sh2 (shW p f.fr.l))).length ≤ _
  simp only [List.length_append]; omega
/-! ### What Check says of a list of faults -/
theorem frmsNo_all : ∀ {l : List Frm}, frmsNo l = 0 → ∀ x ∈ l, frmNo x = 0
  | [], _, x, hx => (by cases hx)
  | a :: r, h, x, hx => by
    rw [frmsNo] at h
    split at h
    · contradiction
    · rename_i h1
      rcases List.mem_cons.1 hx with rfl | h2
      · omega
      · exact frmsNo_all h x h2
theorem fltsNo_all : ∀ {l : List Flt}, fltsNo l = 0 → ∀ x ∈ l, fltNo x = 0
  | [], _, x, hx => (by cases hx)
  | a :: r, h, x, hx => by
    rw [fltsNo] at h
    split at h
    · contradiction
    · rename_i h1
      rcases List.mem_cons.1 hx with rfl | h2
      · omega
      · exact fltsNo_all h x h2
theorem frmNo_right {x : Frm} (h : frmNo x = 0) : FrN x ∧ x.m.length ≤ 200 ∧ x.f.length ≤ 200 ∧ x.fi.length ≤ 200 := by
  unfold frmNo at h
  split at h
  · contradiction
  · rename_i h1
    have h1 : wordsNo x.m x.f x.fi = 0 := by omega
    split at h
    · cases h
    · rename_i h2
      simp only [Bool.or_eq_true, decide_eq_true_eq, not_or] at h2
      unfold wordsNo at h1
      split at h1
      · cases h1
      · rename_i h3
        simp only [Bool.or_eq_true, decide_eq_true_eq, not_or] at h3
        exact ⟨⟨⟨by omega, by omega, by omega⟩, by omega, by omega⟩, by omega, by omega, by omega⟩
theorem fltNo_right {f : Flt} (hq : f.fr.l.length = f.fr.q) (h : fltNo f = 0) : FlN f := by
  unfold fltNo at h
  split at h
  · cases h
  · split at h
    · cases h
    · split at h
      · cases h
      · split at h
        · contradiction
        · rename_i h1 _ _ h2
          have h2 : sayNo f.t = 0 := by omega
          have h3 : f.t.length ≤ 2000 := by
            unfold sayNo at h2
            split at h2
            · cases h2
            · omega
          unfold framesNo at h
          split at h
          · cases h
          · exact ⟨by omega, by omega, by omega, fun x hx => (frmNo_right (frmsNo_all h x hx)).1⟩
theorem faultsNo_right {w : World} {l : Sl Flt} (hl : FltsOk w l) (h : faultsNo l = 0) : 0 < l.q ∧ l.q ≤ 10 ∧ ∀ f ∈ l.l, FlN f := by
  unfold faultsNo at h
  split at h
  · cases h
  · split at h
    · cases h
    · exact ⟨by omega, by omega, fun f hf => fltNo_right (hl.n f hf).fr.ok.t.len (fltsNo_all h f hf)⟩
end Go.Proofs.YtgbldojgbpgjbaaGreatDoor
end
section
namespace Go.Proofs.YtgbldojgbpgjbaaGreatDoor
set_option linter.unusedSimpArgs false
set_option linter.unusedVariables false
set_option maxRecDepth 20000
open Go.RowKit Go.Eng
def digF (h : Nat) : List (List UInt8) → Nat
  | [] => h
  | s :: r => digF (sumN (sumF h s) 0) r
def digS (l : List (List UInt8)) : List UInt8 := List.replicate (16 - (hexA (digF sum0 l) []).length) 48 ++ hexA (digF sum0 l) []
theorem sumN_lt (h : Nat) (c : UInt8) : sumN h c < 18446744073709551616 := Nat.mod_lt _ (by decide)
abbrev hashB (b h : Nat) : It := .blk b (IsBox [.int .u64 (h : Int)] 145)
theorem Digest1_any {w0 : World} {K : HL} (hK : FromK K) (b h : Nat) (c : UInt8) (hh : h < 18446744073709551616) (w : World) (hM0 : Mem w0 ([(0, hashB b h)] ++ K) w) :
    Calls Tryz.prog 89 #[.int .u8 (c.toNat : Int), selfP b] w fun e w' => ∃ _u : Unit, e = .returned (.tuple #[]) ∧ True ∧ Mem w0 ([(0, hashB b (sumN h c))] ++ K) w' := by
  refine enterM_args (args := [.int .u8 (c.toNat : Int), selfP b]) (F := _) hM0 Tryz.func89 rfl Tryz.ntmps89 rfl rfl ?_
  intro Rb hRb hRn
  refine T_region ?_
  refine s1 (yL 0 Tryz.underlying145) ?_
  refine sr 1 ?_
  refine s1 (y_as (v' := .int .u64 (c.toNat : Int)) (by have := c.toNat_lt; rw [wrap_in .u64 _ ⟨by show (0 : Int) ≤ _; omega, by show _ ≤ (18446744073709551615 : Int); omega⟩]) (y_conv rfl rfl Tryz.underlying5 Tryz.underlying145)) ?_
  refine s1 (y_as (v' := .int .u64 ((h ^^^ c.toNat : Nat) : Int)) (by rw [xorN _ _ hh (by have := c.toNat_lt; omega)]) (y_bin rfl rfl rfl (fun _ => b_xor))) ?_
  refine s1 (y_as (v' := .int .u64 ((sumN h c : Nat) : Int)) (by exact mulN _) (y_bin rfl rfl rfl (fun hg => b_mulw))) ?_
  refine S_store 0 rfl rfl rfl rfl rfl rfl sz145 rfl rfl ?_
  refine S_nil (fun a w hF hM => hRn a w (post0 rfl (fun w hM => ?_) a w hF hM))
  exact ⟨(), rfl, trivial, hM.keep (ks := [(0, 999)]) (by repeat (first | exact kl_rest (by assumption) rfl | (apply kl_in; focus rfl))) _ ⟨rfl, trivial⟩⟩
theorem Digest_any (A : Option Addr) (q c : Nat) (l : List (List UInt8)) (w : World) (hl : SlT strE 1 w A q l) (hn : ∀ s ∈ l, s.length ≤ 4611686018427387904) (hT : TzTab w) (hq : q ≤ 1000000000) :
    Calls Tryz.prog 43 #[.slice A q c] w fun e w' => e = .returned (str (digS l)) ∧ Below w.heap.size w w' := by
  have hlen := hl.len
  refine enter_args (args := [.slice A q c]) (F := _) Tryz.func43 rfl Tryz.ntmps43 rfl rfl ?_
  intro Rb hRb hRn
  refine tx ?_
  refine sr 1 ?_
  refine sgx ?_
  refine S_alloc 3 3 rfl rfl rfl rfl z145 ?_
  intro b3
  refine S_store 3 rfl rfl rfl rfl rfl rfl sz145 rfl rfl ?_
  refine sgx ?_
  refine s1 (y_makeFunc rfl rfl rfl rfl rfl) ?_
  refine sr 1 ?_
  refine sgs ?_
  refine tx ?_
  refine sr 1 ?_
  refine s1 (y_len_slice rfl rfl Tryz.underlying53) ?_
  refine sr 1 ?_
  refine sgo ?_
  refine T_block ?_
  refine lK2 (kf := [(6, 7), (12, 29)]) (kl := [(3, 3), (6, 7), (12, 29)]) (fun (i : Nat) (h : Nat) => [(12, true, .int .i64 (i : Int))]) (fun (i : Nat) (h : Nat) => [(3, hashB b3 h)]) (fun (i : Nat) (h : Nat) => i ≤ q ∧ digF sum0 l = digF h (l.drop i) ∧ h < 18446744073709551616) (fun (i : Nat) (h : Nat) => q - i) 0 sum0 ?_ ?_ ?_ ?_
  · exact ⟨by omega, rfl, by decide⟩
  · exact ⟨rfl, trivial⟩
  · exact ⟨rfl, trivial⟩
  rintro i h ⟨hp1, hp2, hp3⟩
  refine tx ?_
  refine sr 1 ?_
  refine sgs ?_
  refine T_cond rfl ?_ ?_ <;> intro h13
  · try simp only [nrm] at h13
    obtain ⟨x, hx1, hx2⟩ := hl.at (i := i) (by omega)
    have hxn := hn x (mem_at hx1)
    refine kgs ?_
    refine T_block ?_
    refine tx ?_
    refine s1 (y_indexAddr rfl rfl rfl Tryz.underlying53 sz9 (fun hg => hl.isSome (by omega)) (fun _ => by omega)) ?_
    refine s1 (y_loadT1 (val := (fun l : List UInt8 => str l)) rfl rfl hl (fun _ => hx1) Tryz.underlying9 rfl) ?_
    refine sr 1 ?_
    refine sgs ?_
    refine tx ?_
    refine sr 1 ?_
    refine s1 (y_len_str rfl rfl Tryz.underlying9) ?_
    refine sr 1 ?_
    refine sgo ?_
    refine T_block ?_
    refine lK2 (kf := [(7, 7), (18, 26)]) (kl := [(3, 3), (7, 7), (18, 26)]) (fun (j : Nat) (g : Nat) => [(18, true, .int .i64 (j : Int))]) (fun (j : Nat) (g : Nat) => [(3, hashB b3 g)]) (fun (j : Nat) (g : Nat) => j ≤ x.length ∧ sumF h x = sumF g (x.drop j) ∧ g < 18446744073709551616) (fun (j : Nat) (g : Nat) => x.length - j) 0 h ?_ ?_ ?_ ?_
    · exact ⟨by omega, rfl, hp3⟩
    · exact ⟨rfl, trivial⟩
    · exact ⟨rfl, trivial⟩
    rintro j g ⟨hq1, hq2, hq3⟩
    refine tx ?_
    refine sr 1 ?_
    refine sgs ?_
    refine T_cond rfl ?_ ?_ <;> intro h19
    · try simp only [nrm] at h19
      refine kgs ?_
      refine T_block ?_
      refine tx ?_
      refine sr 2 ?_
      refine sgr ?_
      refine sr 3 ?_
      refine s1 (y_index_str rfl rfl rfl Tryz.underlying9 (fun _ => by omega)) ?_
      refine S_callM 25 [(0, 3)] (X := Unit) rfl rfl rfl rfl rfl rfl rfl cf89 rfl (fun _ => .tuple #[]) (fun _ => True) (fun _ => [(0, hashB b3 (sumN g (x.getD j 0)))]) (fun _ => rfl) (fun _ => rfl) (fun K1 hK1 w1 hM => Digest1_any hK1 b3 g (x.getD j 0) hq3 w1 hM) ?_
      intro _ _
      refine sgr ?_
      refine s1 (y_bin rfl rfl rfl (fun hg => b_add (by omega))) ?_
      refine sr 1 ?_
      refine S_nil (nK2 (kf := [(7, 7), (18, 26)]) (kl := [(3, 3), (7, 7), (18, 26)]) (j + 1) (sumN g (x.getD j 0)) ?_ ?_ ?_ ?_)
      · omega
      · exact ⟨by omega, by rw [hq2, drop_str (by omega)]; rfl, sumN_lt _ _⟩
      · exact ⟨rfl, trivial⟩
      · exact ⟨rfl, trivial⟩
    try simp only [nrm] at h19
    refine egr ?_
    refine sr 1 ?_
    refine S_callM 28 [(0, 3)] (X := Unit) rfl rfl rfl rfl rfl rfl rfl cf89 rfl (fun _ => .tuple #[]) (fun _ => True) (fun _ => [(0, hashB b3 (sumN g 0))]) (fun _ => rfl) (fun _ => rfl) (fun K1 hK1 w1 hM => Digest1_any hK1 b3 g 0 hq3 w1 hM) ?_
    intro _ _
    refine sgr ?_
    refine s1 (y_bin rfl rfl rfl (fun hg => b_add (by omega))) ?_
    refine sr 1 ?_
    refine S_nil (nK2 (kf := [(6, 7), (12, 29)]) (kl := [(3, 3), (6, 7), (12, 29)]) (i + 1) (sumN g 0) ?_ ?_ ?_ ?_)
    · omega
    · exact ⟨by omega, by rw [hp2, hx2]; show digF (sumN (sumF h x) 0) _ = _; rw [hq2, List.drop_eq_nil_of_le (by omega)]; rfl, sumN_lt _ _⟩
    · exact ⟨rfl, trivial⟩
    · exact ⟨rfl, trivial⟩
  try simp only [nrm] at h13
  have hxl : (hexA h []).length ≤ 16 := hexA_len h [] (by decide) hp3
  have he : digF sum0 l = h := by rw [hp2, hl.end (by omega)]; rfl
  refine egx ?_
  refine s1 (yL 3 Tryz.underlying145) ?_
  refine s1 (y_call rfl rfl rfl cf90 (fun _ w hM => FormatUint_any h hp3 w (hT.below hM.below))) ?_
  refine sr 1 ?_
  refine sgx ?_
  refine sr 1 ?_
  refine s1 (y_len_str rfl rfl Tryz.underlying9) ?_
  refine s1 (y_bin rfl rfl rfl (fun hg => b_subv (((16 - (hexA h []).length : Nat) : Int)) (by omega) (by omega))) ?_
  refine s1 (y_call rfl rfl rfl cf91 (fun _ w _ => Repeat0_any _ (by omega) w)) ?_
  refine sr 1 ?_
  refine s1 (y_bin rfl rfl rfl (fun _ => b_adds (by rw [List.length_replicate]; omega))) ?_
  refine sr 1 ?_
  refine sgo ?_
  refine tr1 hRb fun w hM => ?_
  exact ⟨by rw [digS, he], hM.below⟩
end Go.Proofs.YtgbldojgbpgjbaaGreatDoor
end
section
namespace Go.Proofs.YtgbldojgbpgjbaaGreatDoor
set_option linter.unusedSimpArgs false
set_option linter.unusedVariables false
set_option maxRecDepth 20000
open Go.RowKit Go.Eng
def isDg (c : UInt8) : Bool := decide ((48 : Int) ≤ (c.toNat : Int)) && decide ((c.toNat : Int) ≤ 57)
def isHx (c : UInt8) : Bool := isDg c || (decide ((97 : Int) ≤ (c.toNat : Int)) && decide ((c.toNat : Int) ≤ 102)) || (decide ((65 : Int) ≤ (c.toNat : Int)) && decide ((c.toNat : Int) ≤ 70))
theorem isDigit_any (c : UInt8) (w : World) : Calls Tryz.prog 243 #[.int .u8 (c.toNat : Int)] w fun e w' => e = .returned (.bool (isDg c)) ∧ Below w.heap.size w w' := by
  refine enter_args (args := [.int .u8 (c.toNat : Int)]) (F := _) Tryz.func243 rfl Tryz.ntmps243 rfl rfl ?_
  intro Rb hRb hRn
  refine tx ?_
  refine sr 1 ?_
  refine sgx ?_
  refine sr 3 ?_
  refine sg rfl (y_move rfl rfl) ?_
  refine sg rfl (y_bin rfl rfl rfl (fun _ => b_leq)) ?_
  refine s1 (y_and rfl rfl rfl) ?_
  refine sr 1 ?_
  refine sgo ?_
  refine tr1 hRb fun w hM => ?_
  exact ⟨rfl, hM.below⟩
theorem isHex_any (c : UInt8) (w : World) : Calls Tryz.prog 242 #[.int .u8 (c.toNat : Int)] w fun e w' => e = .returned (.bool (isHx c)) ∧ Below w.heap.size w w' := by
  refine enter_args (args := [.int .u8 (c.toNat : Int)]) (F := _) Tryz.func242 rfl Tryz.ntmps242 rfl rfl ?_
  intro Rb hRb hRn
  refine tx ?_
  refine sr 1 ?_
  refine sgx ?_
  refine sr 1 ?_
  refine s1 (y_call rfl rfl rfl cf243 (fun _ w _ => isDigit_any c w)) ?_
  refine sr 1 ?_
  refine sg rfl (y_move rfl rfl) ?_
  refine sg rfl (y_bin rfl rfl rfl (fun _ => b_geq)) ?_
  refine sg rfl (y_move rfl rfl) ?_
  refine sg rfl (y_move rfl rfl) ?_
  refine sg rfl (y_bin rfl rfl rfl (fun _ => b_leq)) ?_
  refine sg rfl (y_and rfl rfl rfl) ?_
  refine s1 (y_or rfl rfl rfl) ?_
  refine sr 1 ?_
  refine sg rfl (y_move rfl rfl) ?_
  refine sg rfl (y_bin rfl rfl rfl (fun _ => b_geq)) ?_
  refine sg rfl (y_move rfl rfl) ?_
  refine sg rfl (y_move rfl rfl) ?_
  refine sg rfl (y_bin rfl rfl rfl (fun _ => b_leq)) ?_
  refine sg rfl (y_and rfl rfl rfl) ?_
  refine s1 (y_or rfl rfl rfl) ?_
  refine sr 1 ?_
  refine sgo ?_
  refine tr1 hRb fun w hM => ?_
  exact ⟨rfl, hM.below⟩
def AskB (g : FuncId) (p : UInt8 → Bool) : Prop :=
  (∀ args w, (callFunc g args).run Tryz.prog w = .ok (.enter g args) w) ∧ ∀ (c : UInt8) w, Calls Tryz.prog g #[.int .u8 (c.toNat : Int)] w fun e w' => e = .returned (.bool (p c)) ∧ Below w.heap.size w w'
def rowP (p : UInt8 → Bool) : List UInt8 → Nat
  | [] => 0
  | c :: r => if p c = true then rowP p r + 1 else 0
theorem rowP_le (p : UInt8 → Bool) : ∀ s, rowP p s ≤ s.length
  | [] => Nat.le_refl _
  | c :: r => by unfold rowP; split; have := rowP_le p r; simp only [List.length_cons]; omega; exact Nat.zero_le _
theorem row_any (s : List UInt8) (g : FuncId) (p : UInt8 → Bool) (hg : AskB g p) (hs : s.length ≤ 4611686018427387904) (w : World) : Calls Tryz.prog 241 #[str s, .func (.func g) #[] #[]] w fun e w' => e = .returned (.int .i64 (rowP p s)) ∧ Below w.heap.size w w' := by
  refine enter_args (args := [str s, .func (.func g) #[] #[]]) (F := _) Tryz.func241 rfl Tryz.ntmps241 rfl rfl ?_
  intro Rb hRb hRn
  refine tx ?_
  refine sr 1 ?_
  refine sgx ?_
  refine sr 1 ?_
  refine sgs ?_
  refine T_block ?_
  refine lK1 (kf := [(5, 18)]) (kl := [(5, 18)]) (fun (i : Nat) => [(5, true, .int .i64 (i : Int))]) (fun (i : Nat) => []) (fun (i : Nat) => i ≤ s.length ∧ rowP p s = i + rowP p (s.drop i)) (fun (i : Nat) => s.length - i) 0 ?_ ?_ ?_ ?_
  · exact ⟨by omega, by simp⟩
  · exact ⟨rfl, trivial⟩
  · exact trivial
  rintro i ⟨hp1, hp2⟩
  refine T_seq ?_
  refine tx ?_
  refine sr 2 ?_
  refine s1 (y_len_str rfl rfl Tryz.underlying9) ?_
  refine sr 2 ?_
  refine sg rfl (y_move rfl rfl) ?_
  refine sg rfl (y_move rfl rfl) ?_
  refine sg rfl (y_move rfl rfl) ?_
  refine sg rfl (y_index_str rfl rfl rfl Tryz.underlying9 (fun hg => by simp only [Bool.true_and, Bool.and_eq_true, beq_iff_eq, decide_eq_true_eq, decide_eq_false_iff_not, Int.not_lt, Int.not_le] at hg; omega)) ?_
  refine sg rfl (y_call rfl rfl rfl hg.1 (fun _ w _ => hg.2 (s.getD i 0) w)) ?_
  refine s1 (y_and rfl rfl rfl) ?_
  refine sgo ?_
  refine T_cond rfl ?_ ?_ <;> intro h16
  · skip
    simp only [Bool.and_eq_true, decide_eq_true_eq] at h16
    refine kgo ?_
    refine T_block ?_
    refine T_region ?_
    refine sr 1 ?_
    refine s1 (y_bin rfl rfl rfl (fun hg => b_add (by omega))) ?_
    refine sr 1 ?_
    refine S_nil (nK1 (kf := [(5, 18)]) (kl := [(5, 18)]) (i + 1) ?_ ?_ ?_ ?_)
    · omega
    · exact ⟨by omega, by rw [hp2, drop_str (by omega), rowP, if_pos h16.2]; omega⟩
    · exact ⟨rfl, trivial⟩
    · exact trivial
  simp only [Bool.and_eq_false_iff, decide_eq_false_iff_not] at h16
  have he : rowP p s = i := by
    rw [hp2]
    rcases Nat.lt_or_ge i s.length with hlt | hge
    · rw [drop_str hlt, rowP, if_neg (by rcases h16 with h | h; omega; rw [h]; decide)]; rfl
    · rw [List.drop_eq_nil_of_le hge]; rfl
  refine egx ?_
  refine sr 2 ?_
  refine sgo ?_
  refine tr1 hRb fun w hM => ?_
  exact ⟨by rw [he], hM.below⟩
theorem askB_hex : AskB 242 isHx := ⟨cf242, isHex_any⟩
theorem askB_dig : AskB 243 isDg := ⟨cf243, isDigit_any⟩
/-! ### A byte written -/
theorem WByte_any {w0 : World} {K : HL} (hK : FromK K) (b : Nat) (ad : Value) (A : Option Addr) (c : Nat) (l : List UInt8) (x : UInt8) (had : ad = .pointer none ∨ ad = selfP b) (hlen : l.length + 1 ≤ 140737488355328) (w : World) (hM0 : Mem w0 ([(0, bB b ad A c l), (1, bR A c l)] ++ K) w) :
    Calls Tryz.prog 244 #[selfP b, .int .u8 (x.toNat : Int)] w fun e w' => ∃ z : Option Addr × Nat, e = .returned .nilIface ∧ True ∧
      Mem w0 ([(0, bB b (selfP b) z.1 z.2 (l ++ [x])), (1, bR z.1 z.2 (l ++ [x]))] ++ K) w' := by
  refine enterM_args (args := [selfP b, .int .u8 (x.toNat : Int)]) (F := _) hM0 Tryz.func244 rfl Tryz.ntmps244 rfl rfl ?_
  intro Rb hRb hRn
  refine tx ?_
  refine sr 1 ?_
  refine sgx ?_
  refine sr 1 ?_
  refine S_callM 6 [(0, 0)] (X := Unit) rfl rfl rfl rfl rfl rfl rfl cf76 rfl (fun _ => .tuple #[]) (fun _ => True) (fun _ => [(0, bB b (selfP b) A c l)]) (fun _ => rfl) (fun _ => rfl) (fun K1 hK1 w hM => (copyCheck_any hK1 b ad _ had w hM).mono fun e w1 h => ⟨(), h.1, trivial, h.2⟩) ?_
  intro _ _
  refine sgx ?_
  refine sr 2 ?_
  refine s1 (y_nilCheck rfl rfl) ?_
  refine s1 (yF fa73_1) ?_
  refine s1 (yL 0 Tryz.underlying71) ?_
  refine sr 1 ?_
  refine S_buildSlice 13 13 rfl rfl rfl rfl rfl Tryz.underlying71 inf5 rfl (by decide) (by decide) rfl rfl (by decide) rfl (_) rfl ?_
  intro b13
  obtain ⟨i14, hi14, hz14, hs14, hy14⟩ := info_parts inf5
  refine S_append 14 1 13 rfl rfl rfl rfl rfl rfl rfl rfl Tryz.underlying71 hi14 hz14 hs14 hy14 rfl (by decide) (by decide) rfl ?_ ?_ ((l ++ [x]).length) (bytesV (l ++ [x])) ?_ ?_ ?_
  · (simp only [maxLen]; omega)
  · omega
  · rw [List.length_append]; rfl
  · show bytesV l ++ [Value.int .u8 (x.toNat : Int)] = _; rw [bytesV, bytesV, List.map_append]; rfl
  intro A14 c14
  refine s1 (y_nilCheck rfl rfl) ?_
  refine s1 (yF fa73_1) ?_
  refine S_store 0 rfl rfl rfl rfl rfl rfl sz71 rfl rfl ?_
  refine sgx ?_
  refine sr 1 ?_
  refine sgo ?_
  refine tr1 hRb fun w hM => ?_
  exact ⟨(A14, c14), rfl, trivial, hM.keep (ks := [(0, 999)]) (by repeat (first | exact kl_rest (by assumption) rfl | (apply kl_in; focus rfl))) _ ⟨rfl, rfl, trivial⟩⟩
/-! ### Plain -/
abbrev kA : List UInt8 := [60, 97, 62]
abbrev kN : List UInt8 := [60, 110, 62]
abbrev kS : List UInt8 := [60, 115, 62]
abbrev k0x : List UInt8 := [48, 120]
def qtP (s : List UInt8) : Int := Lib.indexByte (s.drop 1) 34
def stP (s : List UInt8) : List UInt8 × List UInt8 :=
  if Lib.hasPrefix s k0x = true ∧ 0 < rowP isHx (s.drop 2) then (kA, s.drop (2 + rowP isHx (s.drop 2)))
  else if 0 < rowP isDg s then (kN, s.drop (rowP isDg s))
  else if s.getD 0 0 = 34 ∧ 0 ≤ qtP s then (kS, s.drop ((qtP s).toNat + 2))
  else ([s.getD 0 0], s.drop 1)
def plF : Nat → List UInt8 → List UInt8
  | 0, _ => []
  | n + 1, s => if s = [] then [] else (stP s).1 ++ plF n (stP s).2
def plS (s : List UInt8) : List UInt8 := plF s.length s
theorem stP_lt {s : List UInt8} (h0 : s ≠ []) : (stP s).2.length < s.length := by
  have hp : 0 < s.length := List.length_pos_iff.2 h0
  unfold stP
  split
  · show (s.drop _).length < _
    rw [List.length_drop]; omega
  split
  · show (s.drop _).length < _
    rw [List.length_drop]; omega
  split
  · show (s.drop _).length < _
    rw [List.length_drop]; omega
  · show (s.drop _).length < _
    rw [List.length_drop]; omega
theorem plF_fuel : ∀ (n m : Nat) (s : List UInt8), s.length ≤ n → s.length ≤ m → plF n s = plF m s
  | 0, m, s, h, _ => by
    have : s = [] := List.eq_nil_of_length_eq_zero (by omega)
    subst this
    cases m <;> simp [plF]
  | n + 1, 0, s, _, h => by
    have : s = [] := List.eq_nil_of_length_eq_zero (by omega)
    subst this
    simp [plF]
  | n + 1, m + 1, s, h, h' => by
    unfold plF
    by_cases h0 : s = []
    · rw [if_pos h0, if_pos h0]
    · have := stP_lt h0
      rw [if_neg h0, if_neg h0, plF_fuel n m _ (by omega) (by omega)]
theorem plF_next {s a b : List UInt8} (h0 : s ≠ []) (hs : stP s = (a, b)) : plF s.length s = a ++ plF b.length b := by
  have : 0 < s.length := List.length_pos_iff.2 h0
  have hl := stP_lt h0
  rw [hs] at hl
  obtain ⟨m, hm⟩ : ∃ m, s.length = m + 1 := ⟨s.length - 1, by omega⟩
  rw [hm, plF, if_neg h0, hs]
  show a ++ plF m b = _
  rw [plF_fuel m b.length b (by dsimp only at hl; omega) (Nat.le_refl _)]
theorem stP_1 {s : List UInt8} (h1 : Lib.hasPrefix s k0x = true) (h2 : 0 < rowP isHx (s.drop 2)) : stP s = (kA, s.drop (2 + rowP isHx (s.drop 2))) := if_pos ⟨h1, h2⟩
theorem stP_2 {s : List UInt8} (h1 : ¬ (Lib.hasPrefix s k0x = true ∧ 0 < rowP isHx (s.drop 2))) (h2 : 0 < rowP isDg s) : stP s = (kN, s.drop (rowP isDg s)) := (if_neg h1).trans (if_pos h2)
theorem stP_3 {s : List UInt8} (h1 : ¬ (Lib.hasPrefix s k0x = true ∧ 0 < rowP isHx (s.drop 2))) (h2 : ¬ 0 < rowP isDg s) (h3 : s.getD 0 0 = 34) (h4 : 0 ≤ qtP s) : stP s = (kS, s.drop ((qtP s).toNat + 2)) := (if_neg h1).trans ((if_neg h2).trans (if_pos ⟨h3, h4⟩))
theorem stP_4 {s : List UInt8} (h1 : ¬ (Lib.hasPrefix s k0x = true ∧ 0 < rowP isHx (s.drop 2))) (h2 : ¬ 0 < rowP isDg s) (h3 : ¬ (s.getD 0 0 = 34 ∧ 0 ≤ qtP s)) : stP s = ([s.getD 0 0], s.drop 1) := (if_neg h1).trans ((if_neg h2).trans (if_neg h3))
theorem pre0x_len {s : List UInt8} (h : Lib.hasPrefix s k0x = true) : 2 ≤ s.length := (List.isPrefixOf_iff_prefix.1 h).length_le
theorem qt_lt {s : List UInt8} (h : 0 ≤ qtP s) : (qtP s).toNat + 2 ≤ s.length := by
  have e : Lib.indexByte (s.drop 1) 34 = ((qtP s).toNat : Nat) := by show qtP s = _; omega
  have h1 := (Lib.indexByte_some e).1
  have h2 := (List.getElem?_eq_some_iff.1 h1).1
  rw [List.length_drop] at h2; omega
theorem u8_34 {c : UInt8} : ((c.toNat : Nat) : Int) = 34 ↔ c = 34 := ⟨fun h => UInt8.toNat_inj.1 (by show c.toNat = 34; omega), fun h => by rw [h]; rfl⟩
theorem plF_nil : ∀ n, plF n [] = []
  | 0 => rfl
  | n + 1 => by rw [plF, if_pos rfl]
theorem Plain_any (s : List UInt8) (hs : s.length ≤ 1000000) (w : World) : Calls Tryz.prog 180 #[str s] w fun e w' => e = .returned (str (plS s)) ∧ Below w.heap.size w w' := by
  refine enter_args (args := [str s]) (F := _) Tryz.func180 rfl Tryz.ntmps180 rfl rfl ?_
  intro Rb hRb hRn
  refine tx ?_
  refine sr 1 ?_
  refine sgx ?_
  refine S_alloc 3 3 rfl rfl rfl rfl z73 ?_
  intro b3
  refine S_nilSlice 900 (e := 5) (size := 1) ?_
  refine sgs ?_
  refine T_block ?_
  refine lK5 (kf := [(0, 0), (4, 46)]) (kl := [(0, 0), (3, 46), (900, 900)]) (fun (A : Option Addr) (c : Nat) (ad : Value) (L t : List UInt8) => [(0, true, str t)]) (fun (A : Option Addr) (c : Nat) (ad : Value) (L t : List UInt8) => [(3, bB b3 ad A c L), (900, bR A c L)]) (fun (A : Option Addr) (c : Nat) (ad : Value) (L t : List UInt8) => (ad = .pointer none ∨ ad = selfP b3) ∧ (L.length = 0 → A = none) ∧ L.length + 3 * t.length ≤ 3 * s.length ∧ L ++ plF t.length t = plS s) (fun (A : Option Addr) (c : Nat) (ad : Value) (L t : List UInt8) => t.length) none 0 (.pointer none) [] s ?_ ?_ ?_ ?_
  · exact ⟨.inl rfl, fun _ => rfl, by simp, rfl⟩
  · exact ⟨rfl, trivial⟩
  · exact ⟨rfl, rfl, trivial⟩
  rintro A c ad L t ⟨had, hz, hp1, hp2⟩
  refine T_seq ?_
  refine tx ?_
  refine sr 1 ?_
  refine s1 (y_bin rfl rfl rfl (fun _ => b_neqs)) ?_
  refine sgo ?_
  refine T_cond rfl ?_ ?_ <;> intro h8
  · try simp only [nrm] at h8
    have ht0 : t ≠ [] := by simpa using h8
    have htl : 0 < t.length := List.length_pos_iff.2 ht0
    have hr1 := rowP_le isDg t
    have hr2 := rowP_le isHx (t.drop 2)
    rw [List.length_drop] at hr2
    refine kgo ?_
    refine T_block ?_
    refine T_seq ?_
    refine tx ?_
    refine sr 1 ?_
    refine s1 (y_call rfl rfl rfl cf183 (fun _ w _ => HasPrefix_any _ _ w)) ?_
    refine sgo ?_
    refine T_cond rfl ?_ ?_ <;> intro h10
    · skip
      have hx2 := pre0x_len h10
      refine tx ?_
      refine sr 1 ?_
      refine s1 (y_strFrom rfl rfl rfl Tryz.underlying9 (fun _ => by omega)) ?_
      refine s1 (y_call rfl rfl rfl cf241 (fun _ w _ => row_any (t.drop 2) _ _ askB_hex (by rw [List.length_drop]; omega) w)) ?_
      refine sr 1 ?_
      refine sgx ?_
      refine sr 2 ?_
      refine sgo ?_
      refine T_cond rfl ?_ ?_ <;> intro h15
      · try simp only [nrm] at h15
        refine tx ?_
        refine S_callM 16 [(0, 3), (1, 900)] (X := Option Addr × Nat) rfl rfl rfl rfl rfl rfl rfl cf31 rfl (fun _ => .tuple #[.int .i64 (kA).length, .nilIface]) (fun _ => True) (fun z0 => [(0, bB b3 (selfP b3) z0.1 z0.2 (L ++ kA)), (1, bR z0.1 z0.2 (L ++ kA))]) (fun _ => rfl) (fun _ => rfl) (fun K1 hK1 w hM => (WStr_any hK1 b3 _ _ _ (L) (kA) (had) (by show L.length + 3 ≤ _; omega) w hM).mono fun e w1 h => h.elim fun x h => ⟨x, h.1, trivial, h.2.2⟩) ?_
        intro x16 hx16
        refine sgx ?_
        refine sr 2 ?_
        refine s1 (y_bin rfl rfl rfl (fun hg => b_addv (((2 + rowP isHx (t.drop 2) : Nat) : Int)) (by omega) (by omega))) ?_
        refine s1 (y_strFrom rfl rfl rfl Tryz.underlying9 (fun _ => by omega)) ?_
        refine sr 1 ?_
        refine sgo ?_
        refine T_exit (nK5 (kf := [(0, 0), (4, 46)]) (kl := [(0, 0), (3, 46), (900, 900)]) x16.1 x16.2 (selfP b3) (L ++ kA) (t.drop (2 + rowP isHx (t.drop 2))) ?_ ?_ ?_ ?_)
        · rw [List.length_drop]; omega
        · exact ⟨.inr rfl, fun h => by rw [List.length_append] at h; simp only [List.length_cons, List.length_nil] at h; omega, by rw [List.length_append, List.length_drop]; show L.length + 3 + _ ≤ _; omega, by rw [← hp2, plF_next ht0 (stP_1 h10 (by omega)), List.append_assoc]⟩
        · exact ⟨rfl, trivial⟩
        · exact ⟨rfl, rfl, trivial⟩
      try simp only [nrm] at h15
      have hA : ¬ (Lib.hasPrefix t k0x = true ∧ 0 < rowP isHx (t.drop 2)) := fun h => by have := h.2; omega
      refine kgs ?_
      refine tx ?_
      refine sr 1 ?_
      refine s1 (y_call rfl rfl rfl cf241 (fun _ w _ => row_any t _ _ askB_dig (by omega) w)) ?_
      refine sr 1 ?_
      refine sgx ?_
      refine sr 2 ?_
      refine sgo ?_
      refine T_cond rfl ?_ ?_ <;> intro h24
      · try simp only [nrm] at h24
        refine tx ?_
        refine S_callM 25 [(0, 3), (1, 900)] (X := Option Addr × Nat) rfl rfl rfl rfl rfl rfl rfl cf31 rfl (fun _ => .tuple #[.int .i64 (kN).length, .nilIface]) (fun _ => True) (fun z0 => [(0, bB b3 (selfP b3) z0.1 z0.2 (L ++ kN)), (1, bR z0.1 z0.2 (L ++ kN))]) (fun _ => rfl) (fun _ => rfl) (fun K1 hK1 w hM => (WStr_any hK1 b3 _ _ _ (L) (kN) (had) (by show L.length + 3 ≤ _; omega) w hM).mono fun e w1 h => h.elim fun x h => ⟨x, h.1, trivial, h.2.2⟩) ?_
        intro x25 hx25
        refine sgx ?_
        refine sr 2 ?_
        refine s1 (y_strFrom rfl rfl rfl Tryz.underlying9 (fun _ => by omega)) ?_
        refine sr 1 ?_
        refine sgo ?_
        refine T_exit (nK5 (kf := [(0, 0), (4, 46)]) (kl := [(0, 0), (3, 46), (900, 900)]) x25.1 x25.2 (selfP b3) (L ++ kN) (t.drop (rowP isDg t)) ?_ ?_ ?_ ?_)
        · rw [List.length_drop]; omega
        · exact ⟨.inr rfl, fun h => by rw [List.length_append] at h; simp only [List.length_cons, List.length_nil] at h; omega, by rw [List.length_append, List.length_drop]; show L.length + 3 + _ ≤ _; omega, by rw [← hp2, plF_next ht0 (stP_2 hA (by omega)), List.append_assoc]⟩
        · exact ⟨rfl, trivial⟩
        · exact ⟨rfl, rfl, trivial⟩
      try simp only [nrm] at h24
      refine kgs ?_
      refine tx ?_
      refine sr 1 ?_
      refine s1 (y_index_str (j := 0) rfl rfl rfl Tryz.underlying9 (fun _ => by omega)) ?_
      refine sr 1 ?_
      refine sgo ?_
      refine T_cond rfl ?_ ?_ <;> intro h31
      · try simp only [nrm] at h31
        refine tx ?_
        refine sr 1 ?_
        refine s1 (y_strFrom rfl rfl rfl Tryz.underlying9 (fun _ => by omega)) ?_
        refine s1 (y_as (v' := .int .i64 (qtP t)) (by exact rfl) (y_call rfl rfl rfl cf210 (fun _ w _ => IndexByte_any (t.drop 1) 34 w))) ?_
        refine sr 1 ?_
        refine sgx ?_
        refine sr 2 ?_
        refine sgo ?_
        refine T_cond rfl ?_ ?_ <;> intro h36
        · try simp only [nrm] at h36
          have hql := qt_lt h36
          refine tx ?_
          refine S_callM 37 [(0, 3), (1, 900)] (X := Option Addr × Nat) rfl rfl rfl rfl rfl rfl rfl cf31 rfl (fun _ => .tuple #[.int .i64 (kS).length, .nilIface]) (fun _ => True) (fun z0 => [(0, bB b3 (selfP b3) z0.1 z0.2 (L ++ kS)), (1, bR z0.1 z0.2 (L ++ kS))]) (fun _ => rfl) (fun _ => rfl) (fun K1 hK1 w hM => (WStr_any hK1 b3 _ _ _ (L) (kS) (had) (by show L.length + 3 ≤ _; omega) w hM).mono fun e w1 h => h.elim fun x h => ⟨x, h.1, trivial, h.2.2⟩) ?_
          intro x37 hx37
          refine sgx ?_
          refine sr 2 ?_
          refine s1 (y_bin rfl rfl rfl (fun hg => b_addv ((((qtP t).toNat + 2 : Nat) : Int)) (by omega) (by omega))) ?_
          refine s1 (y_strFrom rfl rfl rfl Tryz.underlying9 (fun _ => by omega)) ?_
          refine sr 1 ?_
          refine sgo ?_
          refine T_exit (nK5 (kf := [(0, 0), (4, 46)]) (kl := [(0, 0), (3, 46), (900, 900)]) x37.1 x37.2 (selfP b3) (L ++ kS) (t.drop ((qtP t).toNat + 2)) ?_ ?_ ?_ ?_)
          · rw [List.length_drop]; omega
          · exact ⟨.inr rfl, fun h => by rw [List.length_append] at h; simp only [List.length_cons, List.length_nil] at h; omega, by rw [List.length_append, List.length_drop]; show L.length + 3 + _ ≤ _; omega, by rw [← hp2, plF_next ht0 (stP_3 hA (by omega) (u8_34.1 h31) h36), List.append_assoc]⟩
          · exact ⟨rfl, trivial⟩
          · exact ⟨rfl, rfl, trivial⟩
        try simp only [nrm] at h36
        refine kgx ?_
        refine sr 1 ?_
        refine s1 (y_index_str (j := 0) rfl rfl rfl Tryz.underlying9 (fun _ => by omega)) ?_
        refine S_callM 44 [(0, 3), (1, 900)] (X := Option Addr × Nat) rfl rfl rfl rfl rfl rfl rfl cf244 rfl (fun _ => .nilIface) (fun _ => True) (fun z => [(0, bB b3 (selfP b3) z.1 z.2 (L ++ [t.getD 0 0])), (1, bR z.1 z.2 (L ++ [t.getD 0 0]))]) (fun _ => rfl) (fun _ => rfl) (fun K1 hK1 w1 hM => WByte_any hK1 b3 ad A c L (t.getD 0 0) had (by omega) w1 hM) ?_
        intro x44 hx44
        refine sgr ?_
        refine sr 1 ?_
        refine s1 (y_strFrom rfl rfl rfl Tryz.underlying9 (fun _ => by omega)) ?_
        refine sr 1 ?_
        refine S_nil (nK5 (kf := [(0, 0), (4, 46)]) (kl := [(0, 0), (3, 46), (900, 900)]) x44.1 x44.2 (selfP b3) (L ++ [t.getD 0 0]) (t.drop 1) ?_ ?_ ?_ ?_)
        · rw [List.length_drop]; omega
        · exact ⟨.inr rfl, fun h => by rw [List.length_append] at h; simp only [List.length_cons, List.length_nil] at h; omega, by rw [List.length_append, List.length_drop]; show L.length + 1 + _ ≤ _; omega, by rw [← hp2, plF_next ht0 (stP_4 hA (by omega) fun h => by have := h.2; omega), List.append_assoc]⟩
        · exact ⟨rfl, trivial⟩
        · exact ⟨rfl, rfl, trivial⟩
      try simp only [nrm] at h31
      refine kgx ?_
      refine sr 1 ?_
      refine s1 (y_index_str (j := 0) rfl rfl rfl Tryz.underlying9 (fun _ => by omega)) ?_
      refine S_callM 44 [(0, 3), (1, 900)] (X := Option Addr × Nat) rfl rfl rfl rfl rfl rfl rfl cf244 rfl (fun _ => .nilIface) (fun _ => True) (fun z => [(0, bB b3 (selfP b3) z.1 z.2 (L ++ [t.getD 0 0])), (1, bR z.1 z.2 (L ++ [t.getD 0 0]))]) (fun _ => rfl) (fun _ => rfl) (fun K1 hK1 w1 hM => WByte_any hK1 b3 ad A c L (t.getD 0 0) had (by omega) w1 hM) ?_
      intro x44 hx44
      refine sgr ?_
      refine sr 1 ?_
      refine s1 (y_strFrom rfl rfl rfl Tryz.underlying9 (fun _ => by omega)) ?_
      refine sr 1 ?_
      refine S_nil (nK5 (kf := [(0, 0), (4, 46)]) (kl := [(0, 0), (3, 46), (900, 900)]) x44.1 x44.2 (selfP b3) (L ++ [t.getD 0 0]) (t.drop 1) ?_ ?_ ?_ ?_)
      · rw [List.length_drop]; omega
      · exact ⟨.inr rfl, fun h => by rw [List.length_append] at h; simp only [List.length_cons, List.length_nil] at h; omega, by rw [List.length_append, List.length_drop]; show L.length + 1 + _ ≤ _; omega, by rw [← hp2, plF_next ht0 (stP_4 hA (by omega) fun h => h31 (u8_34.2 h.1)), List.append_assoc]⟩
      · exact ⟨rfl, trivial⟩
      · exact ⟨rfl, rfl, trivial⟩
    have hA : ¬ (Lib.hasPrefix t k0x = true ∧ 0 < rowP isHx (t.drop 2)) := fun h => by rw [h10] at h; cases h.1
    refine kgs ?_
    refine tx ?_
    refine sr 1 ?_
    refine s1 (y_call rfl rfl rfl cf241 (fun _ w _ => row_any t _ _ askB_dig (by omega) w)) ?_
    refine sr 1 ?_
    refine sgx ?_
    refine sr 2 ?_
    refine sgo ?_
    refine T_cond rfl ?_ ?_ <;> intro h24
    · try simp only [nrm] at h24
      refine tx ?_
      refine S_callM 25 [(0, 3), (1, 900)] (X := Option Addr × Nat) rfl rfl rfl rfl rfl rfl rfl cf31 rfl (fun _ => .tuple #[.int .i64 (kN).length, .nilIface]) (fun _ => True) (fun z0 => [(0, bB b3 (selfP b3) z0.1 z0.2 (L ++ kN)), (1, bR z0.1 z0.2 (L ++ kN))]) (fun _ => rfl) (fun _ => rfl) (fun K1 hK1 w hM => (WStr_any hK1 b3 _ _ _ (L) (kN) (had) (by show L.length + 3 ≤ _; omega) w hM).mono fun e w1 h => h.elim fun x h => ⟨x, h.1, trivial, h.2.2⟩) ?_
      intro x25 hx25
      refine sgx ?_
      refine sr 2 ?_
      refine s1 (y_strFrom rfl rfl rfl Tryz.underlying9 (fun _ => by omega)) ?_
      refine sr 1 ?_
      refine sgo ?_
      refine T_exit (nK5 (kf := [(0, 0), (4, 46)]) (kl := [(0, 0), (3, 46), (900, 900)]) x25.1 x25.2 (selfP b3) (L ++ kN) (t.drop (rowP isDg t)) ?_ ?_ ?_ ?_)
      · rw [List.length_drop]; omega
      · exact ⟨.inr rfl, fun h => by rw [List.length_append] at h; simp only [List.length_cons, List.length_nil] at h; omega, by rw [List.length_append, List.length_drop]; show L.length + 3 + _ ≤ _; omega, by rw [← hp2, plF_next ht0 (stP_2 hA (by omega)), List.append_assoc]⟩
      · exact ⟨rfl, trivial⟩
      · exact ⟨rfl, rfl, trivial⟩
    try simp only [nrm] at h24
    refine kgs ?_
    refine tx ?_
    refine sr 1 ?_
    refine s1 (y_index_str (j := 0) rfl rfl rfl Tryz.underlying9 (fun _ => by omega)) ?_
    refine sr 1 ?_
    refine sgo ?_
    refine T_cond rfl ?_ ?_ <;> intro h31
    · try simp only [nrm] at h31
      refine tx ?_
      refine sr 1 ?_
      refine s1 (y_strFrom rfl rfl rfl Tryz.underlying9 (fun _ => by omega)) ?_
      refine s1 (y_as (v' := .int .i64 (qtP t)) (by exact rfl) (y_call rfl rfl rfl cf210 (fun _ w _ => IndexByte_any (t.drop 1) 34 w))) ?_
      refine sr 1 ?_
      refine sgx ?_
      refine sr 2 ?_
      refine sgo ?_
      refine T_cond rfl ?_ ?_ <;> intro h36
      · try simp only [nrm] at h36
        have hql := qt_lt h36
        refine tx ?_
        refine S_callM 37 [(0, 3), (1, 900)] (X := Option Addr × Nat) rfl rfl rfl rfl rfl rfl rfl cf31 rfl (fun _ => .tuple #[.int .i64 (kS).length, .nilIface]) (fun _ => True) (fun z0 => [(0, bB b3 (selfP b3) z0.1 z0.2 (L ++ kS)), (1, bR z0.1 z0.2 (L ++ kS))]) (fun _ => rfl) (fun _ => rfl) (fun K1 hK1 w hM => (WStr_any hK1 b3 _ _ _ (L) (kS) (had) (by show L.length + 3 ≤ _; omega) w hM).mono fun e w1 h => h.elim fun x h => ⟨x, h.1, trivial, h.2.2⟩) ?_
        intro x37 hx37
        refine sgx ?_
        refine sr 2 ?_
        refine s1 (y_bin rfl rfl rfl (fun hg => b_addv ((((qtP t).toNat + 2 : Nat) : Int)) (by omega) (by omega))) ?_
        refine s1 (y_strFrom rfl rfl rfl Tryz.underlying9 (fun _ => by omega)) ?_
        refine sr 1 ?_
        refine sgo ?_
        refine T_exit (nK5 (kf := [(0, 0), (4, 46)]) (kl := [(0, 0), (3, 46), (900, 900)]) x37.1 x37.2 (selfP b3) (L ++ kS) (t.drop ((qtP t).toNat + 2)) ?_ ?_ ?_ ?_)
        · rw [List.length_drop]; omega
        · exact ⟨.inr rfl, fun h => by rw [List.length_append] at h; simp only [List.length_cons, List.length_nil] at h; omega, by rw [List.length_append, List.length_drop]; show L.length + 3 + _ ≤ _; omega, by rw [← hp2, plF_next ht0 (stP_3 hA (by omega) (u8_34.1 h31) h36), List.append_assoc]⟩
        · exact ⟨rfl, trivial⟩
        · exact ⟨rfl, rfl, trivial⟩
      try simp only [nrm] at h36
      refine kgx ?_
      refine sr 1 ?_
      refine s1 (y_index_str (j := 0) rfl rfl rfl Tryz.underlying9 (fun _ => by omega)) ?_
      refine S_callM 44 [(0, 3), (1, 900)] (X := Option Addr × Nat) rfl rfl rfl rfl rfl rfl rfl cf244 rfl (fun _ => .nilIface) (fun _ => True) (fun z => [(0, bB b3 (selfP b3) z.1 z.2 (L ++ [t.getD 0 0])), (1, bR z.1 z.2 (L ++ [t.getD 0 0]))]) (fun _ => rfl) (fun _ => rfl) (fun K1 hK1 w1 hM => WByte_any hK1 b3 ad A c L (t.getD 0 0) had (by omega) w1 hM) ?_
      intro x44 hx44
      refine sgr ?_
      refine sr 1 ?_
      refine s1 (y_strFrom rfl rfl rfl Tryz.underlying9 (fun _ => by omega)) ?_
      refine sr 1 ?_
      refine S_nil (nK5 (kf := [(0, 0), (4, 46)]) (kl := [(0, 0), (3, 46), (900, 900)]) x44.1 x44.2 (selfP b3) (L ++ [t.getD 0 0]) (t.drop 1) ?_ ?_ ?_ ?_)
      · rw [List.length_drop]; omega
      · exact ⟨.inr rfl, fun h => by rw [List.length_append] at h; simp only [List.length_cons, List.length_nil] at h; omega, by rw [List.length_append, List.length_drop]; show L.length + 1 + _ ≤ _; omega, by rw [← hp2, plF_next ht0 (stP_4 hA (by omega) fun h => by have := h.2; omega), List.append_assoc]⟩
      · exact ⟨rfl, trivial⟩
      · exact ⟨rfl, rfl, trivial⟩
    try simp only [nrm] at h31
    refine kgx ?_
    refine sr 1 ?_
    refine s1 (y_index_str (j := 0) rfl rfl rfl Tryz.underlying9 (fun _ => by omega)) ?_
    refine S_callM 44 [(0, 3), (1, 900)] (X := Option Addr × Nat) rfl rfl rfl rfl rfl rfl rfl cf244 rfl (fun _ => .nilIface) (fun _ => True) (fun z => [(0, bB b3 (selfP b3) z.1 z.2 (L ++ [t.getD 0 0])), (1, bR z.1 z.2 (L ++ [t.getD 0 0]))]) (fun _ => rfl) (fun _ => rfl) (fun K1 hK1 w1 hM => WByte_any hK1 b3 ad A c L (t.getD 0 0) had (by omega) w1 hM) ?_
    intro x44 hx44
    refine sgr ?_
    refine sr 1 ?_
    refine s1 (y_strFrom rfl rfl rfl Tryz.underlying9 (fun _ => by omega)) ?_
    refine sr 1 ?_
    refine S_nil (nK5 (kf := [(0, 0), (4, 46)]) (kl := [(0, 0), (3, 46), (900, 900)]) x44.1 x44.2 (selfP b3) (L ++ [t.getD 0 0]) (t.drop 1) ?_ ?_ ?_ ?_)
    · rw [List.length_drop]; omega
    · exact ⟨.inr rfl, fun h => by rw [List.length_append] at h; simp only [List.length_cons, List.length_nil] at h; omega, by rw [List.length_append, List.length_drop]; show L.length + 1 + _ ≤ _; omega, by rw [← hp2, plF_next ht0 (stP_4 hA (by omega) fun h => h31 (u8_34.2 h.1)), List.append_assoc]⟩
    · exact ⟨rfl, trivial⟩
    · exact ⟨rfl, rfl, trivial⟩
  try simp only [nrm] at h8
  have ht0 : t = [] := by simpa using h8
  refine egx ?_
  refine S_callM 47 [(0, 3), (1, 900)] (X := Unit) rfl rfl rfl rfl rfl rfl rfl cf36 rfl (fun _ => str (L)) (fun _ => True) (fun _ => [(1, bR none 0 []), (0, bB b3 (ad) A c (L))]) (fun _ => rfl) (fun _ => rfl) (fun K1 hK1 w hM => (BStr_any hK1 b3 _ _ _ (L) (hz) (by omega) w hM).mono fun e w1 h => ⟨(), h.1, trivial, h.2⟩) ?_
  intro _ _
  refine sr 1 ?_
  refine sgo ?_
  refine tr1 hRb fun w hM => ?_
  exact ⟨by rw [← hp2, ht0, plF_nil, List.append_nil], hM.below⟩
end Go.Proofs.YtgbldojgbpgjbaaGreatDoor
end
section
namespace Go.Proofs.YtgbldojgbpgjbaaGreatDoor
set_option linter.unusedSimpArgs false
set_option linter.unusedVariables false
set_option maxRecDepth 20000
open Go.RowKit Go.Eng
section
variable {α : Type} {f : α → α} {l : List α} {i : Nat} {x : α}
def gpL (f : α → α) (l : List α) (i : Nat) : List α := (l.take i).map f ++ l.drop i
theorem gpL_0 : gpL f l 0 = l := by simp [gpL]
theorem gpL_end (h : l.length ≤ i) : gpL f l i = l.map f := by rw [gpL, List.take_of_length_le h, List.drop_eq_nil_of_le h, List.append_nil]
theorem gpL_len : (gpL f l i).length = l.length := by simp only [gpL, List.length_append, List.length_map, List.length_take, List.length_drop]; omega
theorem gpL_at (h : l[i]? = some x) : (gpL f l i)[i]? = some x := by
  have hi := (List.getElem?_eq_some_iff.1 h).1
  have e : ((l.take i).map f).length = i := by rw [List.length_map, List.length_take]; omega
  rw [gpL, List.getElem?_append_right (by omega), e, Nat.sub_self, List.getElem?_drop, Nat.add_zero, h]
theorem gpL_set (h : l[i]? = some x) : (gpL f l i).set i (f x) = gpL f l (i + 1) := by
  have hi := (List.getElem?_eq_some_iff.1 h).1
  have e : ((l.take i).map f).length = i := by rw [List.length_map, List.length_take]; omega
  have e1 : l[i] = x := (List.getElem?_eq_some_iff.1 h).2
  rw [gpL, List.set_append_right _ _ (by omega), e, Nat.sub_self, List.drop_eq_getElem_cons hi, List.set_cons_zero, gpL, List.take_succ_eq_append_getElem hi, List.map_append, e1, List.append_assoc]
  rfl
theorem gpL_at1 (h : l[i]? = some x) : (gpL f l (i + 1))[i]? = some (f x) := by
  have hi := (List.getElem?_eq_some_iff.1 h).1
  rw [← gpL_set h, List.getElem?_set_self (by rw [gpL_len]; exact hi)]
theorem gpL_map {β : Type} {h : α → β} (hf : ∀ x, h (f x) = h x) : (gpL f l i).map h = l.map h := by
  rw [gpL, List.map_append, List.map_map, show h ∘ f = h from funext hf, ← List.map_append, List.take_append_drop]
end
/-! ### rows -/
def blkR (r : Row) : Option Nat := r.v.ownBlock
def DisR (l : List Row) : Prop := (l.map blkR).Pairwise fun a b => ∀ g, a = some g → b ≠ some g
def woR (l : List Row) (i : Nat) : List Row := l.take i ++ l.drop (i + 1)
theorem woR_sub {l : List Row} {i : Nat} : ∀ r ∈ woR l i, r ∈ l := by
  intro r hr
  rcases List.mem_append.1 hr with h | h
  · exact List.mem_of_mem_take h
  · exact List.mem_of_mem_drop h
theorem woR_dis {l : List Row} {i : Nat} {x : Row} (hd : DisR l) (hx : l[i]? = some x) : ∀ r ∈ woR l i, ∀ b, blkR x = some b → r.v.ownBlock ≠ some b := by
  have hl := (List.getElem?_eq_some_iff.1 hx).1
  have e1 : l[i] = x := (List.getElem?_eq_some_iff.1 hx).2
  have e : l = l.take i ++ x :: l.drop (i + 1) := by rw [← e1, ← List.drop_eq_getElem_cons hl, List.take_append_drop]
  unfold DisR at hd
  rw [e, List.map_append, List.map_cons, List.pairwise_append, List.pairwise_cons] at hd
  obtain ⟨_, ⟨h2, _⟩, h3⟩ := hd
  intro r hr b hb
  rcases List.mem_append.1 hr with h | h
  · intro he
    exact h3 (blkR r) (List.mem_map.2 ⟨r, h, rfl⟩) (blkR x) (List.mem_cons_self ..) b he hb
  · exact h2 (blkR r) (List.mem_map.2 ⟨r, h, rfl⟩) b hb
theorem DisR.nil : DisR [] := List.Pairwise.nil
theorem DisR.snoc {l : List Row} {x : Row} (h : DisR l) (hx : ∀ r ∈ l, ∀ b, x.v.ownBlock = some b → r.v.ownBlock ≠ some b) : DisR (l ++ [x]) := by
  unfold DisR
  rw [List.map_append, List.pairwise_append]
  refine ⟨h, by simp, fun a ha b hb g hg hg2 => ?_⟩
  obtain ⟨r, hr, rfl⟩ := List.mem_map.1 ha
  obtain ⟨y, hy, rfl⟩ := List.mem_map.1 hb
  rw [List.mem_singleton.1 hy] at hg2
  exact hx r hr g hg2 hg
theorem DisR.same {l l' : List Row} (h : DisR l) (e : l'.map blkR = l.map blkR) : DisR l' := by unfold DisR; rw [e]; exact h
theorem set_back {l : List Row} {i : Nat} {x : Row} (hi : i < l.length) : ∀ y ∈ l.set i x, y ∈ woR l i ++ [x] := by
  intro y hy
  rw [List.set_eq_take_append_cons_drop, if_pos hi] at hy
  rcases List.mem_append.1 hy with h | h
  · exact List.mem_append_left _ (List.mem_append_left _ h)
  · rcases List.mem_cons.1 h with rfl | h
    · exact List.mem_append_right _ (List.mem_singleton.2 rfl)
    · exact List.mem_append_left _ (List.mem_append_right _ h)
/-! ### marked frames -/
structure Mk where
  x : Frm
  sh : Bool
def Mk.enc (m : Mk) : List Value := [str m.x.m, str m.x.f, str m.x.fi, .int .i64 m.x.ln, .int .i64 m.x.ad, .bool m.x.own, .bool m.x.own, .bool m.sh]
def Mk.own (m : Mk) : Bool := m.x.own
structure Ln where
  A : Option Addr
  c : Nat
  l : List Mk
def Ln.enc (n : Ln) : List Value := [.slice n.A n.l.length n.c]
def Ln.row (n : Ln) : Row := ⟨213, 8, .slice n.A n.l.length n.c, n.l.length, n.l.flatMap Mk.enc⟩
structure Spk where
  A : Option Addr
  c : Nat
  n : Nat
def Spk.enc (s : Spk) : List Value := [.slice s.A s.n s.c]
def Spk.row (s : Spk) : Row := ⟨3, 1, .slice s.A s.n s.c, s.n, List.replicate s.n (.int .i64 0)⟩
def posO : List Mk → Int → Int
  | [], _ => -1
  | m :: r, i => if m.own = true then i else posO r (i + 1)
theorem posO_any : ∀ (l : List Mk) (i : Int), 0 ≤ i → decide (posO l i < 0) = !(l.any Mk.own)
  | [], i, _ => rfl
  | m :: r, i, h => by
    unfold posO
    by_cases hm : m.own = true
    · rw [if_pos hm, List.any_cons, hm, decide_eq_false (by omega)]; rfl
    · rw [if_neg hm, posO_any r (i + 1) (by omega), List.any_cons, Bool.eq_false_iff.2 hm, Bool.false_or]
def shB (l : List Mk) (m : Mk) : Mk := ⟨m.x, m.x.own || !(l.any Mk.own)⟩
def shnL (n : Ln) : Ln := ⟨n.A, n.c, n.l.map (shB n.l)⟩
theorem shnL_enc (n : Ln) : (shnL n).enc = n.enc := by simp [shnL, Ln.enc]
theorem shnL_blk (n : Ln) : blkR (shnL n).row = blkR n.row := by simp [shnL, Ln.row, blkR]
def mkL (l : List Frm) : List Mk := l.map fun x => ⟨x, false⟩
theorem gp_row {l : List Ln} {i : Nat} {n : Ln} (h : l[i]? = some n) : ∀ y ∈ (gpL shnL l (i + 1)).map Ln.row, y ∈ woR ((gpL shnL l i).map Ln.row) i ++ [(shnL n).row] := by
  have hi := (List.getElem?_eq_some_iff.1 h).1
  intro y hy
  rw [← gpL_set h, List.map_set] at hy
  exact set_back (by rw [List.length_map, gpL_len]; exact hi) y hy
theorem gp_dis {l : List Ln} {i : Nat} (h : DisR (l.map Ln.row)) : DisR ((gpL shnL l i).map Ln.row) := by
  refine h.same ?_
  rw [List.map_map, List.map_map]
  exact gpL_map (h := blkR ∘ Ln.row) shnL_blk
theorem sp_row {l : List Row} {i : Nat} {r : Row} (h : l[i]? = some r) : ∀ y ∈ l, y ∈ woR l i ++ [r] := by
  have hi := (List.getElem?_eq_some_iff.1 h).1
  have e : l.set i r = l := by
    apply List.ext_getElem?
    intro j
    rw [List.getElem?_set]
    split
    · rename_i hj; subst hj; simp [hi]; exact ((List.getElem?_eq_some_iff.1 h).2).symm
    · rfl
  intro y hy
  rw [← e] at hy
  exact set_back hi y hy
end Go.Proofs.YtgbldojgbpgjbaaGreatDoor
end
section
namespace Go.Proofs.YtgbldojgbpgjbaaGreatDoor
set_option linter.unusedSimpArgs false
set_option linter.unusedVariables false
set_option maxRecDepth 20000
open Go.RowKit Go.Eng
theorem show1_any (m : Mk) (w : World) : Calls Tryz.prog 283 #[.agg m.enc.toArray] w fun e w' => e = .returned (.bool m.own) ∧ Below w.heap.size w w' := by
  refine enter_args (args := [.agg #[str m.x.m, str m.x.f, str m.x.fi, .int .i64 m.x.ln, .int .i64 m.x.ad, .bool m.x.own, .bool m.x.own, .bool m.sh]]) (F := _) Tryz.func283 rfl Tryz.ntmps283 rfl rfl ?_
  intro Rb hRb hRn
  refine tx ?_
  refine S_box 1 1 rfl rfl rfl rfl rfl ?_
  intro b1
  refine sr 1 ?_
  refine sgx ?_
  refine s1 (yF fa213_1) ?_
  refine s1 (yL 1 Tryz.underlying4) ?_
  refine sr 1 ?_
  refine sgo ?_
  refine tr1 hRb fun w hM => ?_
  exact ⟨rfl, hM.below⟩
theorem findM_any (A : Option Addr) (q c : Nat) (l : List Mk) (w : World) (hl : SlT Mk.enc 8 w A q l) (hq : q ≤ 4611686018427387904) :
    Calls Tryz.prog 282 #[.slice A q c, .func (.func 283) #[] #[]] w fun e w' => e = .returned (.int .i64 (posO l 0)) ∧ Below w.heap.size w w' := by
  refine enter_args (args := [.slice A q c, .func (.func 283) #[] #[]]) (F := _) Tryz.func282 rfl Tryz.ntmps282 rfl rfl ?_
  intro Rb hRb hRn
  refine tx ?_
  refine sr 1 ?_
  refine sgs ?_
  refine tx ?_
  refine sr 1 ?_
  refine s1 (y_len_slice rfl rfl Tryz.underlying211) ?_
  refine sr 1 ?_
  refine sgo ?_
  refine T_block ?_
  refine lK1 (kf := [(4, 6), (9, 18)]) (kl := [(4, 6), (9, 18)]) (fun (i : Nat) => [(9, true, .int .i64 (i : Int))]) (fun (i : Nat) => []) (fun (i : Nat) => i ≤ q ∧ posO l 0 = posO (l.drop i) i) (fun (i : Nat) => q - i) 0 ?_ ?_ ?_ ?_
  · exact ⟨by omega, rfl⟩
  · exact ⟨rfl, trivial⟩
  · exact trivial
  rintro i ⟨hp1, hp2⟩
  refine tx ?_
  refine sr 1 ?_
  refine sgs ?_
  refine T_cond rfl ?_ ?_ <;> intro h10
  · try simp only [nrm] at h10
    obtain ⟨x, hx1, hx2⟩ := hl.at (i := i) (by omega)
    refine kgs ?_
    refine T_block ?_
    refine tx ?_
    refine sr 1 ?_
    refine s1 (y_indexAddr rfl rfl rfl Tryz.underlying211 sz213 (fun hg => hl.isSome (by omega)) (fun _ => by omega)) ?_
    refine s1 (y_loadT rfl rfl hl (fun _ => rfl) (fun _ => hx1) Tryz.underlying213 rfl sz213) ?_
    refine S_alloc 6 6 rfl rfl rfl rfl z213 ?_
    intro b6
    refine sr 1 ?_
    refine S_store 6 rfl rfl rfl rfl rfl rfl sz213 rfl rfl ?_
    refine sgx ?_
    refine sr 1 ?_
    refine s1 (yA 6 rfl Tryz.underlying213 sz213) ?_
    refine s1 (y_call rfl rfl rfl cf283 (fun _ w _ => show1_any x w)) ?_
    refine sgo ?_
    refine T_cond rfl ?_ ?_ <;> intro h16
    · skip
      refine tx ?_
      refine sr 2 ?_
      refine sgo ?_
      refine tr1 hRb fun w hM => ?_
      exact ⟨by rw [hp2, hx2, posO, if_pos h16], hM.below⟩
    refine kgr ?_
    refine s1 (y_bin rfl rfl rfl (fun hg => b_add (by omega))) ?_
    refine sr 1 ?_
    refine S_nil (nK1 (kf := [(4, 6), (9, 18)]) (kl := [(4, 6), (9, 18)]) (i + 1) ?_ ?_ ?_ ?_)
    · omega
    · exact ⟨by omega, by rw [hp2, hx2, posO, if_neg (by rw [h16]; decide)]; rfl⟩
    · exact ⟨rfl, trivial⟩
    · exact trivial
  try simp only [nrm] at h10
  refine egx ?_
  refine sr 1 ?_
  refine sgo ?_
  refine tr1 hRb fun w hM => ?_
  exact ⟨by rw [hp2, hl.end (by omega)]; rfl, hM.below⟩
abbrev mrkB (b : Nat) (v : Value) (O : Option Addr) (no co : Nat) (S : Option Addr) (ns cs : Nat) : It := .blk b (IsBox [v, .slice O no co, .slice S ns cs, .int .i64 0, str []] 210)
abbrev lnsI (O : Option Addr) (n co : Nat) (l : List Ln) : It := .own 211 1 (.slice O n co) n (l.flatMap Ln.enc)
abbrev spsI (S : Option Addr) (n cs : Nat) (l : List Spk) : It := .own 225 1 (.slice S n cs) n (l.flatMap Spk.enc)
abbrev lnI (n : Ln) (l : List Mk) : It := .own 213 8 (.slice n.A n.l.length n.c) n.l.length (l.flatMap Mk.enc)
abbrev spI (p : Spk) : It := .own 3 1 (.slice p.A p.n p.c) p.n (List.replicate p.n (.int .i64 0))
theorem row_shn (n : Ln) : (shnL n).row = ⟨213, 8, .slice n.A n.l.length n.c, n.l.length, (n.l.map (shB n.l)).flatMap Mk.enc⟩ := by
  show (⟨_, _, .slice n.A (n.l.map (shB n.l)).length n.c, (n.l.map (shB n.l)).length, _⟩ : Row) = _
  rw [List.length_map]; rfl
theorem gp_row2 {l : List Ln} {i : Nat} {n : Ln} (h : l[i]? = some n) : ∀ y ∈ (gpL shnL l (i + 1)).map Ln.row, y ∈ woR ((gpL shnL l i).map Ln.row) i ++ [⟨213, 8, .slice n.A n.l.length n.c, n.l.length, (n.l.map (shB n.l)).flatMap Mk.enc⟩] := by
  rw [← row_shn]; exact gp_row h
theorem rep_at {v : Value} {n j : Nat} (h : j < n) : (List.replicate n v)[j]? = some v := by simp [h]
theorem shown_set {l : List Mk} {j : Nat} {m : Mk} (h : l[j]? = some m) (hs : m.sh = true) : (l.flatMap Mk.enc).set (j * 8 + 7) (.bool true) = l.flatMap Mk.enc := by
  have hj := (List.getElem?_eq_some_iff.1 h).1
  rw [flat_set (enc := Mk.enc) (size := 8) (off := 7) (xe' := m) (fun _ => rfl) h (by decide) (by rw [Mk.enc, hs]; rfl)]
  congr 1
  apply List.ext_getElem?
  intro k
  rw [List.getElem?_set]
  split
  · rename_i hk; subst hk; simp [hj]; exact ((List.getElem?_eq_some_iff.1 h).2).symm
  · rfl
theorem show_any {w0 : World} {K : HL} (hK : FromK K) (b : Nat) (v : Value) (O : Option Addr) (co : Nat) (S : Option Addr) (cs : Nat) (outs : List Ln) (spks : List Spk) (n : Nat) (hno : outs.length = n) (hns : spks.length = n) (hn : n ≤ 1000000000)
    (hsz : ∀ (i : Nat) (x : Ln) (p : Spk), outs[i]? = some x → spks[i]? = some p → p.n = x.l.length ∧ x.l.length ≤ 1000000000) (hd : DisR (outs.map Ln.row)) (hds : DisR (spks.map Spk.row)) (w : World)
    (hM0 : Mem w0 ([(0, mrkB b v O n co S n cs), (901, lnsI O n co outs), (902, spsI S n cs spks), (903, .many (outs.map Ln.row)), (904, .many (spks.map Spk.row))] ++ K) w) :
    Calls Tryz.prog 240 #[selfP b] w fun e w' => ∃ _u : Unit, e = .returned (.tuple #[]) ∧ True ∧
      Mem w0 ([(0, mrkB b v O n co S n cs), (901, lnsI O n co outs), (902, spsI S n cs spks), (903, .many ((outs.map shnL).map Ln.row)), (904, .many (spks.map Spk.row))] ++ K) w' := by
  refine enterM_args (args := [selfP b]) (F := _) hM0 Tryz.func240 rfl Tryz.ntmps240 rfl rfl ?_
  intro Rb hRb hRn
  refine tx ?_
  refine sr 1 ?_
  refine s1 (y_nilCheck rfl rfl) ?_
  refine s1 (yF fa210_1) ?_
  refine s1 (yL 0 Tryz.underlying207) ?_
  refine s1 (y_len_slice rfl rfl Tryz.underlying207) ?_
  refine sr 1 ?_
  refine sgo ?_
  refine T_block ?_
  refine lK1 (kf := [(2, 7), (13, 82)]) (kl := [(2, 7), (13, 82), (903, 904)]) (fun (i : Nat) => [(13, true, .int .i64 (i : Int))]) (fun (i : Nat) => [(903, .many ((gpL shnL outs i).map Ln.row)), (904, .many (spks.map Spk.row))]) (fun (i : Nat) => i ≤ n) (fun (i : Nat) => n - i) 0 ?_ ?_ ?_ ?_
  · omega
  · exact ⟨rfl, trivial⟩
  · exact ⟨by rw [gpL_0]; rfl, rfl, trivial⟩
  rintro i hq1
  refine tx ?_
  refine sr 1 ?_
  refine sgs ?_
  refine T_cond rfl ?_ ?_ <;> intro h14
  · try simp only [nrm] at h14
    obtain ⟨x, hx1, hx2⟩ := at_lt (l := outs) (i := i) (by omega)
    obtain ⟨p, hp1, hp2⟩ := at_lt (l := spks) (i := i) (by omega)
    have hxp := hsz i x p hx1 hp1
    refine T_unbank 903 961 (woR ((gpL shnL outs i).map Ln.row) i) rfl rfl (.inr (mem_at (by rw [List.getElem?_map, gpL_at hx1]; rfl))) woR_sub (woR_dis (gp_dis hd) (x := x.row) (by rw [List.getElem?_map, gpL_at hx1]; rfl)) ?_
    refine T_unbank 904 962 (woR (spks.map Spk.row) i) rfl rfl (.inr (mem_at (by rw [List.getElem?_map, hp1]; rfl))) woR_sub (woR_dis hds (x := p.row) (by rw [List.getElem?_map, hp1]; rfl)) ?_
    refine kgs ?_
    refine T_block ?_
    refine tx ?_
    refine sr 1 ?_
    refine s1 (y_indexOwn 901 rfl rfl rfl rfl Tryz.underlying207 sz211 (fun _ => by omega)) ?_
    refine s1 (y_loadO1 901 (val := (fun n : Ln => Value.slice n.A n.l.length n.c)) rfl rfl rfl hno (fun _ => hx1) Tryz.underlying211 rfl) ?_
    refine sr 2 ?_
    refine sgx ?_
    refine sr 1 ?_
    refine s1 (y_call rfl rfl rfl cf282 (fun _ w1 hM => findM_any x.A x.l.length x.c x.l w1 (row_ok (enc := Mk.enc) (hM.sat 961 _ rfl) rfl).t (by omega))) ?_
    refine s1 (y_as (v' := .bool (!(x.l.any Mk.own))) (by rw [← posO_any x.l 0 (by omega)]) (y_bin rfl rfl rfl (fun _ => b_lss))) ?_
    refine sr 1 ?_
    refine sgx ?_
    refine sr 1 ?_
    refine sgx ?_
    refine sr 1 ?_
    refine s1 (y_len_slice rfl rfl Tryz.underlying211) ?_
    refine sr 1 ?_
    refine sgo ?_
    refine T_block ?_
    refine lK2 (kf := [(5, 7), (23, 81)]) (kl := [(5, 7), (23, 81), (961, 962)]) (fun (j k : Nat) => [(23, true, .int .i64 (j : Int)), (5, true, .int .i64 (k : Int))]) (fun (j k : Nat) => [(961, lnI x (gpL (shB x.l) x.l j)), (962, spI p)]) (fun (j k : Nat) => j ≤ x.l.length ∧ k ≤ j) (fun (j k : Nat) => x.l.length - j) 0 0 ?_ ?_ ?_ ?_
    · exact ⟨by omega, by omega⟩
    · exact ⟨rfl, rfl, trivial⟩
    · exact ⟨by rw [gpL_0]; rfl, rfl, trivial⟩
    rintro j k ⟨hr1, hr2⟩
    refine tx ?_
    refine sr 1 ?_
    refine sgs ?_
    refine T_cond rfl ?_ ?_ <;> intro h24
    · try simp only [nrm] at h24
      obtain ⟨m, hm1, hm2⟩ := at_lt (l := x.l) (i := j) (by omega)
      refine kgs ?_
      refine T_block ?_
      refine tx ?_
      refine sr 2 ?_
      refine sgx ?_
      refine sr 2 ?_
      refine s1 (y_indexOwn 961 rfl rfl rfl rfl Tryz.underlying211 sz213 (fun _ => by omega)) ?_
      refine sr 1 ?_
      refine sgs ?_
      refine tx ?_
      refine sr 1 ?_
      refine s1 (y_nilCheck rfl rfl) ?_
      refine s1 (yF fa210_2) ?_
      refine s1 (yL 0 Tryz.underlying208) ?_
      refine sr 1 ?_
      refine s1 (y_indexOwn 902 rfl rfl rfl rfl Tryz.underlying208 sz225 (fun _ => by omega)) ?_
      refine s1 (y_loadO1 902 (val := (fun p : Spk => Value.slice p.A p.n p.c)) rfl rfl rfl hns (fun _ => hp1) Tryz.underlying225 rfl) ?_
      refine sr 1 ?_
      refine s1 (y_indexOwn 962 rfl rfl rfl rfl Tryz.underlying225 sz3 (fun _ => by omega)) ?_
      refine s1 (y_load_own 962 rfl rfl rfl (fun _ => by omega) (fun _ => rep_at (by omega)) Tryz.underlying3 rfl) ?_
      refine sgo ?_
      refine T_block ?_
      refine tx ?_
      refine sr 2 ?_
      refine sgo ?_
      refine T_cond rfl ?_ ?_ <;> intro h49
      · skip
        exact absurd h49 (by decide)
      refine tx ?_
      refine sr 2 ?_
      refine sgo ?_
      refine T_cond rfl ?_ ?_ <;> intro h54
      · skip
        exact absurd h54 (by decide)
      refine T_region ?_
      refine sr 2 ?_
      refine s1 (y_nilCheckOwn 961 rfl rfl rfl (fun _ => by omega)) ?_
      refine s1 (y_fieldOwn 961 rfl rfl rfl (fun _ => by omega) fa213_1) ?_
      refine s1 (y_load_cellOwn 961 rfl rfl rfl (fun _ => by omega) (fun _ => flat_at (enc := Mk.enc) (size := 8) (fun _ => rfl) (gpL_at hm1) 6 (.bool m.x.own) rfl) Tryz.underlying4 rfl) ?_
      refine sr 1 ?_
      refine sg rfl (y_move rfl rfl) ?_
      refine s1 (y_as (v' := .bool (shB x.l m).sh) (by exact rfl) (y_or rfl rfl rfl)) ?_
      refine s1 (y_nilCheckOwn 961 rfl rfl rfl (fun _ => by omega)) ?_
      refine s1 (y_fieldOwn 961 rfl rfl rfl (fun _ => by omega) fa213_2) ?_
      refine S_storeOwn 961 rfl rfl rfl rfl rfl rfl sz4 rfl rfl ?_ (xs' := ((gpL (shB x.l) x.l (j + 1)).flatMap Mk.enc)) ?_ ?_
      · (rw [flat_lenN (enc := Mk.enc) (size := 8) (fun _ => rfl), gpL_len]; omega)
      · rw [← gpL_set hm1]; exact flat_set (enc := Mk.enc) (size := 8) (off := 7) (fun _ => rfl) (gpL_at hm1) (by decide) rfl
      refine sgx ?_
      refine sr 1 ?_
      refine s1 (y_nilCheckOwn 961 rfl rfl rfl (fun _ => by omega)) ?_
      refine s1 (y_fieldOwn 961 rfl rfl rfl (fun _ => by omega) fa213_2) ?_
      refine s1 (y_load_cellOwn 961 rfl rfl rfl (fun _ => by omega) (fun _ => flat_at (enc := Mk.enc) (size := 8) (fun _ => rfl) (gpL_at1 hm1) 7 (.bool (shB x.l m).sh) rfl) Tryz.underlying4 rfl) ?_
      refine sgo ?_
      refine T_cond rfl ?_ ?_ <;> intro h62
      · skip
        refine tx ?_
        refine sr 1 ?_
        refine s1 (y_bin rfl rfl rfl (fun hg => b_add (by omega))) ?_
        refine sr 1 ?_
        refine sgr ?_
        refine sr 2 ?_
        refine s1 (y_nilCheck rfl rfl) ?_
        refine s1 (yF fa210_3) ?_
        refine s1 (yL 0 Tryz.underlying3) ?_
        refine sr 2 ?_
        refine sg rfl (y_move rfl rfl) ?_
        refine sg rfl (y_move rfl rfl) ?_
        refine sg rfl (y_nilCheck rfl rfl) ?_
        refine sg rfl (yF fa210_3) ?_
        refine sg rfl (yL 0 Tryz.underlying3) ?_
        refine sg rfl (y_bin rfl rfl rfl (fun _ => b_leq)) ?_
        refine s1 (y_as (v' := .bool true) (by exact rfl) (y_or rfl rfl rfl)) ?_
        refine s1 (y_nilCheckOwn 961 rfl rfl rfl (fun _ => by omega)) ?_
        refine s1 (y_fieldOwn 961 rfl rfl rfl (fun _ => by omega) fa213_2) ?_
        refine S_storeOwn 961 rfl rfl rfl rfl rfl rfl sz4 rfl rfl ?_ (xs' := ((gpL (shB x.l) x.l (j + 1)).flatMap Mk.enc)) ?_ ?_
        · (rw [flat_lenN (enc := Mk.enc) (size := 8) (fun _ => rfl), gpL_len]; omega)
        · exact shown_set (gpL_at1 hm1) h62
        refine sgr ?_
        refine s1 (y_bin rfl rfl rfl (fun hg => b_add (by omega))) ?_
        refine sr 1 ?_
        refine S_nil (nK2 (kf := [(5, 7), (23, 81)]) (kl := [(5, 7), (23, 81), (961, 962)]) (j + 1) (k + 1) ?_ ?_ ?_ ?_)
        · omega
        · exact ⟨by omega, by omega⟩
        · exact ⟨rfl, rfl, trivial⟩
        · exact ⟨rfl, rfl, trivial⟩
      refine kgr ?_
      refine s1 (y_bin rfl rfl rfl (fun hg => b_add (by omega))) ?_
      refine sr 1 ?_
      refine S_nil (nK2 (kf := [(5, 7), (23, 81)]) (kl := [(5, 7), (23, 81), (961, 962)]) (j + 1) k ?_ ?_ ?_ ?_)
      · omega
      · exact ⟨by omega, by omega⟩
      · exact ⟨rfl, rfl, trivial⟩
      · exact ⟨rfl, rfl, trivial⟩
    try simp only [nrm] at h24
    rw [show gpL (shB x.l) x.l j = x.l.map (shB x.l) from gpL_end (by omega)]
    refine egr ?_
    refine s1 (y_bin rfl rfl rfl (fun hg => b_add (by omega))) ?_
    refine sr 1 ?_
    refine S_bank [(961, 961), (903, 903)] 903 961 rfl rfl rfl rfl (by repeat (first | exact kl_nil | exact kl_rest (by assumption) rfl | (apply kl_in; focus rfl) | (apply kl_out; focus rfl))) ?_
    refine S_manyEq 903 ((gpL shnL outs (i + 1)).map Ln.row) rfl (gp_row2 hx1) ?_
    refine S_bank [(962, 962), (904, 904)] 904 962 rfl rfl rfl rfl (by repeat (first | exact kl_nil | exact kl_rest (by assumption) rfl | (apply kl_in; focus rfl) | (apply kl_out; focus rfl))) ?_
    refine S_manyEq 904 (spks.map Spk.row) rfl (sp_row (r := p.row) (by rw [List.getElem?_map, hp1]; rfl)) ?_
    refine S_nil (nK1 (kf := [(2, 7), (13, 82)]) (kl := [(2, 7), (13, 82), (903, 904)]) (i + 1) ?_ ?_ ?_ ?_)
    · omega
    · omega
    · exact ⟨rfl, trivial⟩
    · exact ⟨rfl, rfl, trivial⟩
  try simp only [nrm] at h14
  refine T_exit (fun a w hF hM => hRn a w (post0 rfl (fun w hM => ?_) a w hF hM))
  rw [gpL_end (show outs.length ≤ i by omega)] at hM
  exact ⟨(), rfl, trivial, hM.keep (ks := [(0, 999)]) (by repeat (first | exact kl_rest (by assumption) rfl | (apply kl_in; focus rfl))) _ ⟨rfl, rfl, rfl, rfl, rfl, trivial⟩⟩
end Go.Proofs.YtgbldojgbpgjbaaGreatDoor
end
section
namespace Go.Proofs.YtgbldojgbpgjbaaGreatDoor
set_option linter.unusedSimpArgs false
set_option linter.unusedVariables false
set_option maxRecDepth 20000
open Go.RowKit Go.Eng
theorem len_snocG {α : Type} (l : List α) (a : α) : l.length + 1 = (l ++ [a]).length := by simp
theorem flat_snocG {α : Type} (enc : α → List Value) (l : List α) (a : α) : l.flatMap enc ++ enc a = (l ++ [a]).flatMap enc := by simp
theorem map_snocG {α β : Type} (f : α → β) (l : List α) (a : α) : ∀ y ∈ (l ++ [a]).map f, y ∈ l.map f ++ [f a] := by intro y hy; simpa using hy
theorem made_rep (n : Nat) : (madeCells (Value.int .i64 0).cells (n * 1)).toList = List.replicate n (.int .i64 0) := by
  rw [Nat.mul_one, madeCells, Array.toList_map]
  refine List.eq_replicate_iff.2 ⟨by simp, fun b hb => ?_⟩
  obtain ⟨i, _, rfl⟩ := List.mem_map.1 hb
  show (#[Value.int .i64 0])[i % 1]! = _
  rw [Nat.mod_one]; rfl
def mrk (l : List Frm) : List Mk := (mkL l).map (shB (mkL l))
structure MkR where
  b : Nat
  n : Nat
  O : Option Addr
  co : Nat
  S : Option Addr
  cs : Nat
  outs : List Ln
  spks : List Spk
structure MkR.Ok (fs : Sl Flt) (x : MkR) : Prop where
  n : x.outs.length = x.n
  q : x.n = fs.q
  dis : DisR (x.outs.map Ln.row)
  ln : x.outs.map Ln.l = fs.l.map fun f => mrk f.fr.l
theorem shn_ln {fs : List Flt} {outs : List Ln} (h : outs.map Ln.l = fs.map fun f => mkL f.fr.l) : (outs.map shnL).map Ln.l = fs.map fun f => mrk f.fr.l := by
  rw [List.map_map, show (Ln.l ∘ shnL : Ln → List Mk) = (fun l => l.map (shB l)) ∘ Ln.l from rfl, ← List.map_map, h, List.map_map]; rfl
theorem map_at {α β γ : Type} {f : α → γ} {g : β → γ} {l : List α} {m : List β} (h : l.map f = m.map g) {i : Nat} {x : α} (hx : l[i]? = some x) : ∃ y, m[i]? = some y ∧ f x = g y := by
  have e : (l.map f)[i]? = some (f x) := by rw [List.getElem?_map, hx]; rfl
  rw [h, List.getElem?_map] at e
  obtain ⟨y, hy, hxy⟩ := Option.map_eq_some_iff.1 e
  exact ⟨y, hy, hxy.symm⟩
theorem takeS {α : Type} {l : List α} {i : Nat} {x : α} (h : l[i]? = some x) : l.take (i + 1) = l.take i ++ [x] := by rw [List.take_add_one, h]; rfl
theorem hsz_of {fs : List Flt} {outs : List Ln} {spks : List Spk} (h1 : outs.map Ln.l = fs.map fun f => mkL f.fr.l) (h2 : spks.map Spk.n = fs.map fun f => f.fr.q) (h3 : ∀ f ∈ fs, f.fr.l.length = f.fr.q ∧ f.fr.q ≤ 1000000) :
    ∀ (i : Nat) (x : Ln) (p : Spk), outs[i]? = some x → spks[i]? = some p → p.n = x.l.length ∧ x.l.length ≤ 1000000000 := fun i x p hx hp => by
  obtain ⟨f, hf, e1⟩ := map_at h1 hx
  obtain ⟨g, hg, e2⟩ := map_at h2 hp
  have : f = g := by rw [hf] at hg; injection hg
  subst this
  have h := h3 f (List.mem_of_getElem? hf)
  have e : x.l.length = f.fr.l.length := by rw [e1, mkL, List.length_map]
  exact ⟨by rw [e2, e, h.1], by omega⟩
theorem lns_shn (O : Option Addr) (n co : Nat) (l : List Ln) : lnsI O n co l = lnsI O n co (l.map shnL) := by
  have e : (l.map shnL).flatMap Ln.enc = l.flatMap Ln.enc := by
    rw [List.flatMap_map]; exact congrArg (fun f => l.flatMap f) (funext shnL_enc)
  show It.own _ _ _ _ _ = It.own _ _ _ _ _
  rw [e]
theorem mark_any {w0 : World} {K : HL} (hK : FromK K) (fs : Sl Flt) (hf : FltsOk w0 fs) (hq : fs.q ≤ 1000000) (hfq : ∀ x ∈ fs.l, x.fr.q ≤ 1000000) (w : World) (hM0 : Mem w0 ([] ++ K) w) :
    Calls Tryz.prog 179 #[.slice none 0 0, .slice fs.A fs.q fs.c] w fun e w' => ∃ x : MkR, e = .returned (selfP x.b) ∧ x.Ok fs ∧
      Mem w0 ([(15, mrkB x.b (.slice fs.A fs.q fs.c) x.O x.n x.co x.S x.n x.cs), (801, lnsI x.O x.n x.co x.outs), (900, .many (x.outs.map Ln.row))] ++ K) w' := by
  have hft := hf.ok.t
  have hfl := hft.len
  have hsq : ∀ f ∈ fs.l, f.fr.l.length = f.fr.q ∧ f.fr.q ≤ 1000000 := fun f h => ⟨(hf.n f h).fr.ok.t.len, hfq f h⟩
  refine enterM_args (args := [.slice none 0 0, .slice fs.A fs.q fs.c]) (F := _) hM0 Tryz.func179 rfl Tryz.ntmps179 rfl rfl ?_
  intro Rb hRb hRn
  refine T_many0 900 ?_
  refine T_many0 910 ?_
  refine tx ?_
  refine sr 1 ?_
  refine sgx ?_
  refine sr 1 ?_
  refine s1 (y_build (zv := .agg #[.slice none 0 0, .slice none 0 0, .slice none 0 0, .int .i64 0, .string ⟨#[]⟩]) (pl := [(0, 1), (1, 1), (2, 1), (3, 1), (4, 1)]) (out := [_, .slice none 0 0, .slice none 0 0, .int .i64 0, .string ⟨#[]⟩]) rfl rfl Tryz.underlying210 z210 (by kernel_rfl) rfl) ?_
  refine S_box 15 15 rfl rfl rfl rfl rfl ?_
  intro b15
  refine S_nilSlice 801 (e := 211) (size := 1) ?_
  refine S_nilSlice 802 (e := 225) (size := 1) ?_
  refine sr 1 ?_
  refine sgs ?_
  refine tx ?_
  refine sr 1 ?_
  refine s1 (y_len_slice rfl rfl Tryz.underlying22) ?_
  refine sr 1 ?_
  refine sgo ?_
  refine T_block ?_
  refine lK7 (kf := [(7, 8), (10, 10), (18, 60)]) (kl := [(7, 8), (10, 10), (15, 15), (18, 60), (801, 802), (900, 900), (910, 910)]) (fun (i : Nat) (outs : List Ln) (spks : List Spk) (O : Option Addr) (co : Nat) (S : Option Addr) (cs : Nat) => [(18, true, .int .i64 (i : Int))]) (fun (i : Nat) (outs : List Ln) (spks : List Spk) (O : Option Addr) (co : Nat) (S : Option Addr) (cs : Nat) => [(15, mrkB b15 (.slice fs.A fs.q fs.c) O i co S i cs), (801, lnsI O i co outs), (802, spsI S i cs spks), (900, .many (outs.map Ln.row)), (910, .many (spks.map Spk.row))]) (fun (i : Nat) (outs : List Ln) (spks : List Spk) (O : Option Addr) (co : Nat) (S : Option Addr) (cs : Nat) => i ≤ fs.q ∧ outs.length = i ∧ spks.length = i ∧ outs.map Ln.l = (fs.l.take i).map (fun f => mkL f.fr.l) ∧ spks.map Spk.n = (fs.l.take i).map (fun f => f.fr.q) ∧ DisR (outs.map Ln.row) ∧ DisR (spks.map Spk.row)) (fun (i : Nat) (outs : List Ln) (spks : List Spk) (O : Option Addr) (co : Nat) (S : Option Addr) (cs : Nat) => fs.q - i) 0 [] [] none 0 none 0 ?_ ?_ ?_ ?_
  · exact ⟨by omega, rfl, rfl, rfl, rfl, DisR.nil, DisR.nil⟩
  · exact ⟨rfl, trivial⟩
  · exact ⟨rfl, rfl, rfl, rfl, rfl, trivial⟩
  rintro i outs spks O co S cs ⟨hp1, hp2, hp3, hp4, hp5, hp6, hp7⟩
  refine tx ?_
  refine sr 1 ?_
  refine sgs ?_
  refine T_cond rfl ?_ ?_ <;> intro h19
  · try simp only [nrm] at h19
    obtain ⟨x, hx1, hx2⟩ := hft.at (i := i) (by omega)
    have hxt := (hf.n x (mem_at hx1)).fr.ok.t
    have hxl := hxt.len
    have hxq := hfq x (mem_at hx1)
    refine kgs ?_
    refine T_block ?_
    refine tx ?_
    refine s1 (y_indexAddr rfl rfl rfl Tryz.underlying22 sz36 (fun hg => hft.isSome (by omega)) (fun _ => by omega)) ?_
    refine s1 (y_loadT rfl rfl hft (fun _ => rfl) (fun _ => hx1) Tryz.underlying36 rfl sz36) ?_
    refine S_alloc 7 7 rfl rfl rfl rfl z36 ?_
    intro b7
    refine S_store 7 rfl rfl rfl rfl rfl rfl sz36 rfl rfl ?_
    refine sgx ?_
    refine S_nilSlice 8 (e := 213) (size := 8) ?_
    refine sr 1 ?_
    refine sgs ?_
    refine tx ?_
    refine s1 (yF fa36_2) ?_
    refine s1 (yL 7 Tryz.underlying32) ?_
    refine s1 (y_len_slice rfl rfl Tryz.underlying32) ?_
    refine sr 1 ?_
    refine sgo ?_
    refine T_block ?_
    refine lK4 (kf := [(8, 8), (10, 10), (25, 36)]) (kl := [(8, 8), (10, 10), (25, 36)]) (fun (j : Nat) (l : List Mk) (A : Option Addr) (c : Nat) => [(25, true, .int .i64 (j : Int)), (8, true, .slice A l.length c)]) (fun (j : Nat) (l : List Mk) (A : Option Addr) (c : Nat) => [(8, .own 213 8 (.slice A l.length c) l.length (l.flatMap Mk.enc))]) (fun (j : Nat) (l : List Mk) (A : Option Addr) (c : Nat) => j ≤ x.fr.q ∧ l.length = j ∧ mkL x.fr.l = l ++ mkL (x.fr.l.drop j)) (fun (j : Nat) (l : List Mk) (A : Option Addr) (c : Nat) => x.fr.q - j) 0 [] none 0 ?_ ?_ ?_ ?_
    · exact ⟨by omega, rfl, rfl⟩
    · exact ⟨rfl, rfl, trivial⟩
    · exact ⟨rfl, trivial⟩
    rintro j l A c ⟨hr1, hr2, hr3⟩
    refine tx ?_
    refine sr 1 ?_
    refine sgs ?_
    refine T_cond rfl ?_ ?_ <;> intro h26
    · try simp only [nrm] at h26
      obtain ⟨y, hy1, hy2⟩ := hxt.at (i := j) (by omega)
      refine kgs ?_
      refine T_block ?_
      refine tx ?_
      refine s1 (y_indexAddr rfl rfl rfl Tryz.underlying32 sz45 (fun hg => hxt.isSome (by omega)) (fun _ => by omega)) ?_
      refine s1 (y_loadT rfl rfl hxt (fun _ => rfl) (fun _ => hy1) Tryz.underlying45 rfl sz45) ?_
      refine S_alloc 10 10 rfl rfl rfl rfl z45 ?_
      intro b10
      refine S_store 10 rfl rfl rfl rfl rfl rfl sz45 rfl rfl ?_
      refine sgr ?_
      refine sr 1 ?_
      refine s1 (yA 10 rfl Tryz.underlying45 sz45) ?_
      refine s1 (yF fa45_5) ?_
      refine s1 (yL 10 Tryz.underlying4) ?_
      refine s1 (y_build (zv := .agg #[.string ⟨#[]⟩, .string ⟨#[]⟩, .string ⟨#[]⟩, .int .i64 0, .int .i64 0, .bool false, .bool false, .bool false]) (pl := [(0, 6), (6, 1), (7, 1)]) (out := [_, _, _, _, _, _, _, .bool false]) rfl rfl Tryz.underlying213 z213 (by kernel_rfl) rfl) ?_
      refine S_buildSlice 34 34 rfl rfl rfl rfl rfl Tryz.underlying211 inf213 rfl (by decide) (by decide) rfl rfl (by decide) rfl (_) rfl ?_
      intro b34
      obtain ⟨i35, hi35, hz35, hs35, hy35⟩ := info_parts inf213
      refine S_append 35 8 34 rfl rfl rfl rfl rfl rfl rfl rfl Tryz.underlying211 hi35 hz35 hs35 hy35 rfl (by decide) (by decide) rfl ?_ ?_ ((l ++ [(⟨y, false⟩ : Mk)]).length) ((l ++ [(⟨y, false⟩ : Mk)]).flatMap Mk.enc) ?_ ?_ ?_
      · (simp only [maxLen]; omega)
      · omega
      · exact len_snocG _ _
      · exact flat_snocG Mk.enc l ⟨y, false⟩
      intro A35 c35
      refine sr 1 ?_
      refine sgr ?_
      refine s1 (y_bin rfl rfl rfl (fun hg => b_add (by omega))) ?_
      refine sr 1 ?_
      refine S_nil (nK4 (kf := [(8, 8), (10, 10), (25, 36)]) (kl := [(8, 8), (10, 10), (25, 36)]) (j + 1) (l ++ [(⟨y, false⟩ : Mk)]) A35 c35 ?_ ?_ ?_ ?_)
      · omega
      · exact ⟨by omega, by rw [List.length_append, hr2]; rfl, by rw [hr3, hy2, List.append_assoc]; rfl⟩
      · exact ⟨rfl, rfl, trivial⟩
      · exact ⟨rfl, trivial⟩
    try simp only [nrm] at h26
    have hl : mkL x.fr.l = l := by rw [hr3, hxt.end (by omega)]; exact List.append_nil l
    refine egx ?_
    refine sr 2 ?_
    refine s1 (y_nilCheck rfl rfl) ?_
    refine s1 (yF fa210_1) ?_
    refine s1 (yL 15 Tryz.underlying207) ?_
    refine sr 1 ?_
    refine S_buildSlice 43 43 rfl rfl rfl rfl rfl Tryz.underlying207 inf211 rfl (by decide) (by decide) rfl rfl (by decide) rfl (_) rfl ?_
    intro b43
    obtain ⟨i44, hi44, hz44, hs44, hy44⟩ := info_parts inf211
    refine S_append 44 801 43 rfl rfl rfl rfl rfl rfl rfl rfl Tryz.underlying207 hi44 hz44 hs44 hy44 rfl (by decide) (by decide) rfl ?_ ?_ (i + 1) ((outs ++ [(⟨A, c, l⟩ : Ln)]).flatMap Ln.enc) ?_ ?_ ?_
    · (simp only [maxLen]; omega)
    · omega
    · rfl
    · exact flat_snocG Ln.enc outs ⟨A, c, l⟩
    intro A44 c44
    refine s1 (y_nilCheck rfl rfl) ?_
    refine s1 (yF fa210_1) ?_
    refine S_store 15 rfl rfl rfl rfl rfl rfl sz207 rfl rfl ?_
    refine S_known (p := ∀ r ∈ outs.map Ln.row, ∀ g, (⟨A, c, l⟩ : Ln).row.v.ownBlock = some g → r.v.ownBlock ≠ some g) (fun w hM => hM.apart_row (m := 900) (i := 8) rfl rfl rfl) fun hap1 => ?_
    refine S_bank [(8, 8), (900, 900)] 900 8 rfl rfl rfl rfl (by repeat (first | exact kl_nil | exact kl_rest (by assumption) rfl | (apply kl_in; focus rfl) | (apply kl_out; focus rfl))) ?_
    refine S_manyEq 900 ((outs ++ [(⟨A, c, l⟩ : Ln)]).map Ln.row) rfl (map_snocG Ln.row _ _) ?_
    refine sgo ?_
    refine T_perm [0, 1, 2, 3, 4, 5, 6, 7, 8, 9, 10, 11, 12, 13] [true, true, true, true, true, true, true, true, false, false, false, true, true, false] [0, 0, 2, 6, 14, 0, 32, 96, 224, 480, 1022, 2047, 4095, 8191] [(4, [15]), (6, [7])] (by kernel_rfl) (by kernel_rfl) (by kernel_rfl) rfl (by kernel_rfl) ?_
    refine Rf_ 0 47 rfl rfl rfl rfl rfl _ trivial (Y.z (y_move rfl rfl) rfl) ?_
    refine Rf_ 1 48 rfl rfl rfl rfl rfl _ trivial (Y.z (y_move rfl rfl) rfl) ?_
    refine Rf_ 2 49 rfl rfl rfl rfl rfl _ trivial (Z.of (z_nilCheck rfl rfl)) ?_
    refine Rf_ 3 50 rfl rfl rfl rfl rfl _ trivial (Y.z (yF fa210_2) rfl) ?_
    refine Rf_ 4 51 rfl rfl rfl rfl rfl _ ⟨rfl, trivial⟩ (Y.z (yL 15 Tryz.underlying208) rfl) ?_
    refine Rf_ 5 52 rfl rfl rfl rfl rfl _ trivial (Y.z (yF fa36_2) rfl) ?_
    refine Rf_ 6 53 rfl rfl rfl rfl rfl _ ⟨rfl, trivial⟩ (Y.z (yL 7 Tryz.underlying32) rfl) ?_
    refine Rf_ 7 54 rfl rfl rfl rfl rfl _ trivial (Z.of (z_len rfl rfl Tryz.underlying32)) ?_
    refine R_chain 8 rfl rfl ?_
    obtain ⟨i55, hi55, hz55, hs55, hy55⟩ := info_parts inf3
    refine S_makeSlice 55 55 rfl rfl rfl rfl rfl rfl Tryz.underlying225 hi55 hz55 hs55 (by rw [hy55]; omega) (by simp only [maxLen]; omega) (made_rep _) ?_
    intro b55
    refine R_next ⟨.inr ⟨rfl, trivial⟩, .inl rfl, trivial⟩ ?_
    refine R_chain 9 rfl rfl ?_
    refine S_buildSlice 56 56 rfl rfl rfl rfl rfl Tryz.underlying208 inf225 rfl (by decide) (by decide) rfl rfl (by decide) rfl (_) rfl ?_
    intro b56
    refine R_next ⟨.inr ⟨rfl, trivial⟩, .inl rfl, trivial⟩ ?_
    refine R_chain 10 rfl rfl ?_
    obtain ⟨i57, hi57, hz57, hs57, hy57⟩ := info_parts inf225
    refine S_append 57 802 56 rfl rfl rfl rfl rfl rfl rfl rfl Tryz.underlying208 hi57 hz57 hs57 hy57 rfl (by decide) (by decide) rfl ?_ ?_ (i + 1) ((spks ++ [(⟨some ⟨b55, 0, none⟩, x.fr.q, x.fr.q⟩ : Spk)]).flatMap Spk.enc) ?_ ?_ ?_
    · (simp only [maxLen]; omega)
    · omega
    · rfl
    · exact flat_snocG Spk.enc spks ⟨some ⟨b55, 0, none⟩, x.fr.q, x.fr.q⟩
    intro A57 c57
    refine R_next ⟨.inl rfl, .inl rfl, trivial⟩ ?_
    refine Rf_ 11 58 rfl rfl rfl rfl rfl _ trivial (Z.of (z_nilCheck rfl rfl)) ?_
    refine Rf_ 12 59 rfl rfl rfl rfl rfl _ trivial (Y.z (yF fa210_2) rfl) ?_
    refine R_chain 13 rfl rfl ?_
    refine S_store 15 rfl rfl rfl rfl rfl rfl sz208 rfl rfl ?_
    refine S_known (p := ∀ r ∈ spks.map Spk.row, ∀ g, (⟨some ⟨b55, 0, none⟩, x.fr.q, x.fr.q⟩ : Spk).row.v.ownBlock = some g → r.v.ownBlock ≠ some g) (fun w hM => hM.apart_row (m := 910) (i := 55) rfl rfl rfl) fun hap2 => ?_
    refine S_bank [(55, 55), (910, 910)] 910 55 rfl rfl rfl rfl (by repeat (first | exact kl_nil | exact kl_rest (by assumption) rfl | (apply kl_in; focus rfl) | (apply kl_out; focus rfl))) ?_
    refine S_manyEq 910 ((spks ++ [(⟨some ⟨b55, 0, none⟩, x.fr.q, x.fr.q⟩ : Spk)]).map Spk.row) rfl (map_snocG Spk.row _ _) ?_
    refine R_next ⟨.inl rfl, .inl rfl, trivial⟩ ?_
    refine R_go (fun _ _ h => h) ?_
    refine T_region ?_
    refine s1 (y_bin rfl rfl rfl (fun hg => b_add (by omega))) ?_
    refine sr 1 ?_
    refine S_nil (nK7 (kf := [(7, 8), (10, 10), (18, 60)]) (kl := [(7, 8), (10, 10), (15, 15), (18, 60), (801, 802), (900, 900), (910, 910)]) (i + 1) (outs ++ [(⟨A, c, l⟩ : Ln)]) (spks ++ [(⟨some ⟨b55, 0, none⟩, x.fr.q, x.fr.q⟩ : Spk)]) A44 c44 A57 c57 ?_ ?_ ?_ ?_)
    · omega
    · exact ⟨by omega, by rw [List.length_append, hp2]; rfl, by rw [List.length_append, hp3]; rfl, by rw [List.map_append, hp4, takeS hx1, List.map_append, ← hl]; rfl, by rw [List.map_append, hp5, takeS hx1, List.map_append]; rfl, by rw [List.map_append]; exact hp6.snoc hap1, by rw [List.map_append]; exact hp7.snoc hap2⟩
    · exact ⟨rfl, trivial⟩
    · exact ⟨rfl, rfl, rfl, rfl, rfl, trivial⟩
  try simp only [nrm] at h19
  refine egs ?_
  refine tx ?_
  refine sr 1 ?_
  refine s1 (y_len_slice rfl rfl Tryz.underlying95) ?_
  refine sr 1 ?_
  refine sgo ?_
  refine T_block ?_
  refine lK1 (kf := [(12, 12), (63, 70)]) (kl := [(12, 12), (63, 70)]) (fun (k : Nat) => [(63, true, .int .i64 (k : Int))]) (fun (k : Nat) => []) (fun (k : Nat) => k ≤ 0) (fun (k : Nat) => 0) 0 ?_ ?_ ?_ ?_
  · omega
  · exact ⟨rfl, trivial⟩
  · exact trivial
  rintro k hk
  refine tx ?_
  refine sr 1 ?_
  refine sgs ?_
  refine T_cond rfl ?_ ?_ <;> intro h64
  · try simp only [nrm] at h64
    omega
  try simp only [nrm] at h64
  refine egx ?_
  refine sr 1 ?_
  refine S_callM 72 [(0, 15), (901, 801), (902, 802), (903, 900), (904, 910)] (X := Unit) rfl rfl rfl rfl rfl rfl rfl cf240 rfl (fun _ => .tuple #[]) (fun _ => True) (fun _ => [(0, mrkB b15 (.slice fs.A fs.q fs.c) O i co S i cs), (901, lnsI O i co outs), (902, spsI S i cs spks), (903, .many ((outs.map shnL).map Ln.row)), (904, .many (spks.map Spk.row))]) (fun _ => rfl) (fun _ => rfl) (fun K1 hK1 w1 hM => show_any hK1 b15 _ O co S cs outs spks i hp2 hp3 (by omega) (hsz_of hp4 hp5 (fun f hf => hsq f (List.mem_of_mem_take hf))) hp6 hp7 w1 hM) ?_
  intro _ _
  refine sgx ?_
  refine sr 2 ?_
  refine sgo ?_
  refine tr1 hRb fun w hM => ?_
  have hi : i = fs.q := by omega
  have e : fs.l.take i = fs.l := List.take_of_length_le (by omega)
  rw [e] at hp4
  exact ⟨⟨b15, i, O, co, S, cs, outs.map shnL, spks⟩, rfl, ⟨by rw [List.length_map]; exact hp2, hi, hp6.same (by rw [List.map_map, List.map_map, List.map_map]; exact List.map_congr_left fun n _ => shnL_blk n), shn_ln hp4⟩, by rw [lns_shn] at hM; exact hM.keep (ks := [(0, 999)]) (by repeat (first | exact kl_rest (by assumption) rfl | (apply kl_in; focus rfl))) _ ⟨rfl, rfl, rfl, trivial⟩⟩
end Go.Proofs.YtgbldojgbpgjbaaGreatDoor
end
section
namespace Go.Proofs.YtgbldojgbpgjbaaGreatDoor
set_option linter.unusedSimpArgs false
set_option linter.unusedVariables false
set_option maxRecDepth 20000
open Go.RowKit Go.Eng
def wdM (m : Mk) : List UInt8 := m.x.m ++ [33] ++ m.x.f
def goP (k : List UInt8) : Bool → List Mk → List (List UInt8)
  | _, [] => []
  | first, m :: r => if m.sh = true then (if first = true then [k, wdM m] else [wdM m]) ++ goP k false r else goP k first r
def p1F (k : List UInt8) (l : List Frm) : List (List UInt8) := goP k true (mrk l)
def ptA (l : List Flt) : List (List UInt8) := l.flatMap fun f => p1F f.k f.fr.l
def ptB (l : List Flt) : List (List UInt8) := l.flatMap fun f => [f.k, plS f.t]
def ptFs (l : List Flt) : List (List UInt8) := if 0 < (ptA l).length then ptA l else ptB l
theorem goP_nil (k : List UInt8) (b : Bool) : goP k b [] = [] := rfl
theorem marked_len {n : Ln} {x : Flt} {j : Nat} {m : Mk} (h : mrk x.fr.l = n.l) (hx : FlN x) (hm : n.l[j]? = some m) : m.x.m.length ≤ 1000000 ∧ m.x.f.length ≤ 1000000 := by
  rw [← h] at hm
  obtain ⟨m1, h1, rfl⟩ := List.mem_map.1 (List.mem_of_getElem? hm)
  obtain ⟨y, h2, rfl⟩ := List.mem_map.1 h1
  obtain ⟨a, b, _⟩ := (hx.n y h2).s
  exact ⟨a, b⟩
theorem partsOf_any (fs : Sl Flt) (w : World) (hf : FltsOk w fs) (h0 : faultsNo fs = 0) :
    Calls Tryz.prog 88 #[.slice none 0 0, .slice fs.A fs.q fs.c] w fun e w' => ∃ A c, e = .returned (.slice A (ptFs fs.l).length c) ∧
      w'.ownsRow w.heap.size 9 1 (.slice A (ptFs fs.l).length c) (ptFs fs.l).length ((ptFs fs.l).flatMap strE) ∧ Below w.heap.size w w' := by
  obtain ⟨_, hfq, hfn⟩ := faultsNo_right hf h0
  have hft := hf.ok.t
  have hfl := hft.len
  have hxq : ∀ x ∈ fs.l, x.fr.q ≤ 200 := fun x hx => by have := (hf.n x hx).fr.ok.t.len; have := (hfn x hx).q; omega
  refine enter_args (args := [.slice none 0 0, .slice fs.A fs.q fs.c]) (F := _) Tryz.func88 rfl Tryz.ntmps88 rfl rfl ?_
  intro Rb hRb hRn
  refine tx ?_
  refine S_nilSlice 4 (e := 9) (size := 1) ?_
  refine sr 1 ?_
  refine sgx ?_
  refine sr 2 ?_
  refine S_callN 16 [] [(15, 15), (801, 801), (900, 900)] (X := MkR) rfl rfl rfl rfl rfl rfl rfl cf179 rfl (fun z => selfP z.b) (MkR.Ok fs) (fun z => [(15, mrkB z.b (.slice fs.A fs.q fs.c) z.O z.n z.co z.S z.n z.cs), (801, lnsI z.O z.n z.co z.outs), (900, .many (z.outs.map Ln.row))]) (fun _ => rfl) (fun _ => rfl) (fun K1 hK1 w1 hM => mark_any hK1 fs hf (by omega) (fun x hx => by have := hxq x hx; omega) w1 hM) ?_
  intro z hz
  have hzq := hz.q
  refine sr 1 ?_
  refine sgs ?_
  refine tx ?_
  refine sr 1 ?_
  refine s1 (y_nilCheck rfl rfl) ?_
  refine s1 (yF fa210_4) ?_
  refine s1 (yL 15 Tryz.underlying9) ?_
  refine s1 (y_bin rfl rfl rfl (fun _ => b_neqs)) ?_
  refine sgo ?_
  refine T_cond rfl ?_ ?_ <;> intro h21
  · skip
    exact absurd h21 (by decide)
  refine kgx ?_
  refine S_nilSlice 6 (e := 9) (size := 1) ?_
  refine sr 1 ?_
  refine sgs ?_
  refine tx ?_
  refine sr 1 ?_
  refine s1 (y_len_slice rfl rfl Tryz.underlying22) ?_
  refine sr 1 ?_
  refine sgo ?_
  refine T_block ?_
  refine lK4 (kf := [(6, 9), (11, 11), (29, 67)]) (kl := [(6, 9), (11, 11), (29, 67), (900, 900)]) (fun (i : Nat) (out : List (List UInt8)) (A : Option Addr) (c : Nat) => [(29, true, .int .i64 (i : Int)), (6, true, .slice A out.length c)]) (fun (i : Nat) (out : List (List UInt8)) (A : Option Addr) (c : Nat) => [(6, .own 9 1 (.slice A (out).length c) (out).length ((out).flatMap strE)), (900, .many (z.outs.map Ln.row))]) (fun (i : Nat) (out : List (List UInt8)) (A : Option Addr) (c : Nat) => i ≤ fs.q ∧ out ++ ptA (fs.l.drop i) = ptA fs.l ∧ out.length ≤ i * 1000) (fun (i : Nat) (out : List (List UInt8)) (A : Option Addr) (c : Nat) => fs.q - i) 0 [] none 0 ?_ ?_ ?_ ?_
  · exact ⟨by omega, rfl, by simp⟩
  · exact ⟨rfl, rfl, trivial⟩
  · exact ⟨rfl, rfl, trivial⟩
  rintro i out A c ⟨hp1, hp2, hp3⟩
  refine tx ?_
  refine sr 1 ?_
  refine sgs ?_
  refine T_cond rfl ?_ ?_ <;> intro h30
  · try simp only [nrm] at h30
    obtain ⟨x, hx1, hx2⟩ := hft.at (i := i) (by omega)
    have hxn := hfn x (mem_at hx1)
    have hxq2 := hxq x (mem_at hx1)
    obtain ⟨n, hn1, hnl⟩ := map_at hz.ln.symm hx1
    have hnn : n.l.length ≤ 200 := by rw [← hnl, mrk, mkL, List.length_map, List.length_map]; exact hxn.q
    refine T_unbank 900 961 (woR (z.outs.map Ln.row) i) rfl rfl (.inr (mem_at (by rw [List.getElem?_map, hn1]; rfl))) woR_sub (woR_dis hz.dis (x := n.row) (by rw [List.getElem?_map, hn1]; rfl)) ?_
    refine kgs ?_
    refine T_block ?_
    refine tx ?_
    refine sr 1 ?_
    refine s1 (y_indexAddr rfl rfl rfl Tryz.underlying22 sz36 (fun hg => hft.isSome (by omega)) (fun _ => by omega)) ?_
    refine s1 (y_loadT rfl rfl hft (fun _ => rfl) (fun _ => hx1) Tryz.underlying36 rfl sz36) ?_
    refine S_alloc 8 8 rfl rfl rfl rfl z36 ?_
    intro b8
    refine sr 1 ?_
    refine S_store 8 rfl rfl rfl rfl rfl rfl sz36 rfl rfl ?_
    refine sgx ?_
    refine sr 1 ?_
    refine sgx ?_
    refine sr 1 ?_
    refine s1 (y_nilCheck rfl rfl) ?_
    refine s1 (yF fa210_1) ?_
    refine s1 (yL 15 Tryz.underlying207) ?_
    refine sr 1 ?_
    refine s1 (y_indexOwn 801 rfl rfl rfl rfl Tryz.underlying207 sz211 (fun _ => by omega)) ?_
    refine s1 (y_loadO1 801 (val := (fun n : Ln => Value.slice n.A n.l.length n.c)) rfl rfl rfl hz.n (fun _ => hn1) Tryz.underlying211 rfl) ?_
    refine s1 (y_len_slice rfl rfl Tryz.underlying211) ?_
    refine sr 1 ?_
    refine sgo ?_
    refine T_block ?_
    refine lK5 (kf := [(6, 6), (9, 9), (11, 11), (42, 66)]) (kl := [(6, 6), (9, 9), (11, 11), (42, 66), (961, 961)]) (fun (j : Nat) (first : Bool) (o2 : List (List UInt8)) (A2 : Option Addr) (c2 : Nat) => [(42, true, .int .i64 (j : Int)), (9, true, .bool first), (6, true, .slice A2 o2.length c2)]) (fun (j : Nat) (first : Bool) (o2 : List (List UInt8)) (A2 : Option Addr) (c2 : Nat) => [(6, .own 9 1 (.slice A2 (o2).length c2) (o2).length ((o2).flatMap strE)), (961, lnI n n.l)]) (fun (j : Nat) (first : Bool) (o2 : List (List UInt8)) (A2 : Option Addr) (c2 : Nat) => j ≤ n.l.length ∧ o2 ++ goP x.k first (n.l.drop j) = out ++ goP x.k true n.l ∧ o2.length ≤ out.length + 2 * j) (fun (j : Nat) (first : Bool) (o2 : List (List UInt8)) (A2 : Option Addr) (c2 : Nat) => n.l.length - j) 0 true out A c ?_ ?_ ?_ ?_
    · exact ⟨by omega, rfl, by omega⟩
    · exact ⟨rfl, rfl, rfl, trivial⟩
    · exact ⟨rfl, rfl, trivial⟩
    rintro j first o2 A2 c2 ⟨hr1, hr2, hr3⟩
    refine tx ?_
    refine sr 1 ?_
    refine sgs ?_
    refine T_cond rfl ?_ ?_ <;> intro h43
    · try simp only [nrm] at h43
      obtain ⟨m, hm1, hm2⟩ := at_lt (l := n.l) (i := j) (by omega)
      have hms := marked_len hnl hxn hm1
      refine kgs ?_
      refine T_block ?_
      refine tx ?_
      refine s1 (y_indexOwn 961 rfl rfl rfl rfl Tryz.underlying211 sz213 (fun _ => by omega)) ?_
      refine s1 (y_loadO 961 rfl rfl rfl rfl (fun _ => rfl) (fun _ => hm1) Tryz.underlying213 rfl sz213) ?_
      refine S_alloc 11 11 rfl rfl rfl rfl z213 ?_
      intro b11
      refine S_store 11 rfl rfl rfl rfl rfl rfl sz213 rfl rfl ?_
      refine sgs ?_
      refine tx ?_
      refine s1 (yF fa213_2) ?_
      refine s1 (yL 11 Tryz.underlying4) ?_
      refine sr 1 ?_
      refine sgo ?_
      refine T_cond rfl ?_ ?_ <;> intro h48
      · skip
        refine egr ?_
        refine s1 (y_bin rfl rfl rfl (fun hg => b_add (by omega))) ?_
        refine sr 1 ?_
        refine S_nil (nK5 (kf := [(6, 6), (9, 9), (11, 11), (42, 66)]) (kl := [(6, 6), (9, 9), (11, 11), (42, 66), (961, 961)]) (j + 1) first o2 A2 c2 ?_ ?_ ?_ ?_)
        · omega
        · exact ⟨by omega, by rw [← hr2, hm2, goP, if_neg (by simpa using h48)], by omega⟩
        · exact ⟨rfl, rfl, rfl, trivial⟩
        · exact ⟨rfl, rfl, trivial⟩
      refine kgs ?_
      refine tx ?_
      refine sr 1 ?_
      refine sgo ?_
      refine T_cond rfl ?_ ?_ <;> intro h49
      · skip
        have hol : (o2 ++ [x.k]).length = o2.length + 1 := by simp
        refine T_region ?_
        refine sr 1 ?_
        refine s1 (yF fa36_0) ?_
        refine s1 (yL 8 Tryz.underlying9) ?_
        refine S_buildSlice 53 53 rfl rfl rfl rfl rfl Tryz.underlying53 inf9 rfl (by decide) (by decide) rfl rfl (by decide) rfl (_) rfl ?_
        intro b53
        obtain ⟨i54, hi54, hz54, hs54, hy54⟩ := info_parts inf9
        refine S_append 54 6 53 rfl rfl rfl rfl rfl rfl rfl rfl Tryz.underlying53 hi54 hz54 hs54 hy54 rfl (by decide) (by decide) rfl ?_ ?_ ((o2 ++ [x.k]).length) ((o2 ++ [x.k]).flatMap strE) ?_ ?_ ?_
        · (simp only [maxLen]; omega)
        · omega
        · exact len_snocG _ _
        · exact flat_snocG strE (o2) (x.k)
        intro A54 c54
        refine sr 1 ?_
        refine sgx ?_
        refine sr 1 ?_
        refine sgr ?_
        refine sr 1 ?_
        refine s1 (yF fa213_0) ?_
        refine s1 (yF fa45_0) ?_
        refine s1 (yL 11 Tryz.underlying9) ?_
        refine s1 (y_bin rfl rfl rfl (fun hg => b_adds (by first | omega | (simp only [List.length_append, List.length_cons, List.length_nil]; omega)))) ?_
        refine s1 (yF fa213_0) ?_
        refine s1 (yF fa45_1) ?_
        refine s1 (yL 11 Tryz.underlying9) ?_
        refine s1 (y_as (v' := str (wdM m)) (by exact rfl) (y_bin rfl rfl rfl (fun hg => b_adds (by first | omega | (simp only [List.length_append, List.length_cons, List.length_nil]; omega))))) ?_
        refine S_buildSlice 64 64 rfl rfl rfl rfl rfl Tryz.underlying53 inf9 rfl (by decide) (by decide) rfl rfl (by decide) rfl (_) rfl ?_
        intro b64
        obtain ⟨i65, hi65, hz65, hs65, hy65⟩ := info_parts inf9
        refine S_append 65 6 64 rfl rfl rfl rfl rfl rfl rfl rfl Tryz.underlying53 hi65 hz65 hs65 hy65 rfl (by decide) (by decide) rfl ?_ ?_ (((o2 ++ [x.k]) ++ [(wdM m)]).length) (((o2 ++ [x.k]) ++ [(wdM m)]).flatMap strE) ?_ ?_ ?_
        · (simp only [maxLen]; omega)
        · omega
        · exact len_snocG _ _
        · exact flat_snocG strE (o2 ++ [x.k]) (wdM m)
        intro A65 c65
        refine sr 1 ?_
        refine sgr ?_
        refine s1 (y_bin rfl rfl rfl (fun hg => b_add (by omega))) ?_
        refine sr 1 ?_
        refine S_nil (nK5 (kf := [(6, 6), (9, 9), (11, 11), (42, 66)]) (kl := [(6, 6), (9, 9), (11, 11), (42, 66), (961, 961)]) (j + 1) false (o2 ++ [x.k] ++ [wdM m]) A65 c65 ?_ ?_ ?_ ?_)
        · omega
        · exact ⟨by omega, by rw [← hr2, hm2, goP, if_pos (by simpa using h48), if_pos h49]; simp, by simp; omega⟩
        · exact ⟨rfl, rfl, rfl, trivial⟩
        · exact ⟨rfl, rfl, trivial⟩
      refine kgx ?_
      refine sr 1 ?_
      refine sgr ?_
      refine sr 1 ?_
      refine s1 (yF fa213_0) ?_
      refine s1 (yF fa45_0) ?_
      refine s1 (yL 11 Tryz.underlying9) ?_
      refine s1 (y_bin rfl rfl rfl (fun hg => b_adds (by first | omega | (simp only [List.length_append, List.length_cons, List.length_nil]; omega)))) ?_
      refine s1 (yF fa213_0) ?_
      refine s1 (yF fa45_1) ?_
      refine s1 (yL 11 Tryz.underlying9) ?_
      refine s1 (y_as (v' := str (wdM m)) (by exact rfl) (y_bin rfl rfl rfl (fun hg => b_adds (by first | omega | (simp only [List.length_append, List.length_cons, List.length_nil]; omega))))) ?_
      refine S_buildSlice 64 64 rfl rfl rfl rfl rfl Tryz.underlying53 inf9 rfl (by decide) (by decide) rfl rfl (by decide) rfl (_) rfl ?_
      intro b64
      obtain ⟨i65, hi65, hz65, hs65, hy65⟩ := info_parts inf9
      refine S_append 65 6 64 rfl rfl rfl rfl rfl rfl rfl rfl Tryz.underlying53 hi65 hz65 hs65 hy65 rfl (by decide) (by decide) rfl ?_ ?_ ((o2 ++ [(wdM m)]).length) ((o2 ++ [(wdM m)]).flatMap strE) ?_ ?_ ?_
      · (simp only [maxLen]; omega)
      · omega
      · exact len_snocG _ _
      · exact flat_snocG strE (o2) (wdM m)
      intro A65 c65
      refine sr 1 ?_
      refine sgr ?_
      refine s1 (y_bin rfl rfl rfl (fun hg => b_add (by omega))) ?_
      refine sr 1 ?_
      refine S_nil (nK5 (kf := [(6, 6), (9, 9), (11, 11), (42, 66)]) (kl := [(6, 6), (9, 9), (11, 11), (42, 66), (961, 961)]) (j + 1) false (o2 ++ [wdM m]) A65 c65 ?_ ?_ ?_ ?_)
      · omega
      · exact ⟨by omega, by rw [← hr2, hm2, goP, if_pos (by simpa using h48), if_neg (by simp [h49]), List.append_assoc], by simp; omega⟩
      · exact ⟨rfl, rfl, rfl, trivial⟩
      · exact ⟨rfl, rfl, trivial⟩
    try simp only [nrm] at h43
    refine egr ?_
    refine s1 (y_bin rfl rfl rfl (fun hg => b_add (by omega))) ?_
    refine sr 1 ?_
    refine S_bank [(961, 961), (900, 900)] 900 961 rfl rfl rfl rfl (by repeat (first | exact kl_nil | exact kl_rest (by assumption) rfl | (apply kl_in; focus rfl) | (apply kl_out; focus rfl))) ?_
    refine S_manyEq 900 (z.outs.map Ln.row) rfl (sp_row (r := n.row) (by rw [List.getElem?_map, hn1]; rfl)) ?_
    refine S_nil (nK4 (kf := [(6, 9), (11, 11), (29, 67)]) (kl := [(6, 9), (11, 11), (29, 67), (900, 900)]) (i + 1) o2 A2 c2 ?_ ?_ ?_ ?_)
    · omega
    · exact ⟨by omega, by rw [← hp2, hx2]; show _ = _ ++ (p1F x.k x.fr.l ++ ptA _); rw [← List.append_assoc, p1F, hnl, ← hr2, show n.l.drop j = [] from List.drop_eq_nil_of_le (by omega), goP_nil, List.append_nil], by omega⟩
    · exact ⟨rfl, rfl, trivial⟩
    · exact ⟨rfl, rfl, trivial⟩
  try simp only [nrm] at h30
  refine egs ?_
  refine tx ?_
  refine sr 1 ?_
  refine s1 (y_len_slice rfl rfl Tryz.underlying53) ?_
  refine sr 1 ?_
  refine sgo ?_
  refine T_cond rfl ?_ ?_ <;> intro h70
  · try simp only [nrm] at h70
    refine tx ?_
    refine sr 2 ?_
    refine sgo ?_
    refine tr1 hRb fun w hM => ?_
    have e : ptFs fs.l = out := by rw [ptFs, ← hp2, hft.end (by omega), show ptA [] = [] from rfl, List.append_nil, if_pos (by omega)]
    rw [e]
    exact ⟨A, c, rfl, hM.sat 6 _ rfl, hM.below⟩
  try simp only [nrm] at h70
  have hout : out = [] := List.eq_nil_of_length_eq_zero (by omega)
  subst hout
  refine kgs ?_
  refine tx ?_
  refine sr 1 ?_
  refine s1 (y_len_slice rfl rfl Tryz.underlying22) ?_
  refine sr 1 ?_
  refine sgo ?_
  refine T_block ?_
  refine lK4 (kf := [(6, 6), (13, 13), (74, 86)]) (kl := [(6, 6), (13, 13), (74, 86)]) (fun (i2 : Nat) (o3 : List (List UInt8)) (A3 : Option Addr) (c3 : Nat) => [(74, true, .int .i64 (i2 : Int)), (6, true, .slice A3 o3.length c3)]) (fun (i2 : Nat) (o3 : List (List UInt8)) (A3 : Option Addr) (c3 : Nat) => [(6, .own 9 1 (.slice A3 (o3).length c3) (o3).length ((o3).flatMap strE))]) (fun (i2 : Nat) (o3 : List (List UInt8)) (A3 : Option Addr) (c3 : Nat) => i2 ≤ fs.q ∧ o3 ++ ptB (fs.l.drop i2) = ptB fs.l ∧ o3.length ≤ i2 * 2) (fun (i2 : Nat) (o3 : List (List UInt8)) (A3 : Option Addr) (c3 : Nat) => fs.q - i2) 0 [] A c ?_ ?_ ?_ ?_
  · exact ⟨by omega, rfl, by simp⟩
  · exact ⟨rfl, rfl, trivial⟩
  · exact ⟨rfl, trivial⟩
  rintro i2 o3 A3 c3 ⟨hs1, hs2, hs3⟩
  refine tx ?_
  refine sr 1 ?_
  refine sgs ?_
  refine T_cond rfl ?_ ?_ <;> intro h75
  · try simp only [nrm] at h75
    obtain ⟨x, hx1, hx2⟩ := hft.at (i := i2) (by omega)
    refine kgs ?_
    refine T_block ?_
    refine tx ?_
    refine s1 (y_indexAddr rfl rfl rfl Tryz.underlying22 sz36 (fun hg => hft.isSome (by omega)) (fun _ => by omega)) ?_
    refine s1 (y_loadT rfl rfl hft (fun _ => rfl) (fun _ => hx1) Tryz.underlying36 rfl sz36) ?_
    refine S_alloc 13 13 rfl rfl rfl rfl z36 ?_
    intro b13
    refine S_store 13 rfl rfl rfl rfl rfl rfl sz36 rfl rfl ?_
    refine sgo ?_
    refine T_perm [0, 1, 2, 3, 4, 5, 6, 7, 8] [true, true, true, true, true, false, false, false, true] [0, 0, 2, 0, 8, 24, 62, 127, 255] [(2, [13]), (4, [13])] (by kernel_rfl) (by kernel_rfl) (by kernel_rfl) rfl (by kernel_rfl) ?_
    refine Rf_ 0 78 rfl rfl rfl rfl rfl _ trivial (Y.z (y_move rfl rfl) rfl) ?_
    refine Rf_ 1 79 rfl rfl rfl rfl rfl _ trivial (Y.z (yF fa36_0) rfl) ?_
    refine Rf_ 2 80 rfl rfl rfl rfl rfl _ ⟨rfl, trivial⟩ (Y.z (yL 13 Tryz.underlying9) rfl) ?_
    refine Rf_ 3 81 rfl rfl rfl rfl rfl _ trivial (Y.z (yF fa36_1) rfl) ?_
    refine Rf_ 4 82 rfl rfl rfl rfl rfl _ ⟨rfl, trivial⟩ (Y.z (yL 13 Tryz.underlying9) rfl) ?_
    refine R_chain 5 rfl rfl ?_
    refine s1 (y_call rfl rfl rfl cf180 (fun _ w _ => Plain_any x.t (hfn x (mem_at hx1)).t w)) ?_
    refine R_next ⟨.inr ⟨rfl, trivial⟩, .inl rfl, trivial⟩ ?_
    refine R_chain 6 rfl rfl ?_
    refine S_buildSlice 84 84 rfl rfl rfl rfl rfl Tryz.underlying53 inf9 rfl (by decide) (by decide) rfl rfl (by decide) rfl (_) rfl ?_
    intro b84
    refine R_next ⟨.inl rfl, .inl rfl, trivial⟩ ?_
    refine R_chain 7 rfl rfl ?_
    obtain ⟨i85, hi85, hz85, hs85, hy85⟩ := info_parts inf9
    refine S_append 85 6 84 rfl rfl rfl rfl rfl rfl rfl rfl Tryz.underlying53 hi85 hz85 hs85 hy85 rfl (by decide) (by decide) rfl ?_ ?_ ((o3 ++ [x.k, plS x.t]).length) ((o3 ++ [x.k, plS x.t]).flatMap strE) ?_ ?_ ?_
    · (simp only [maxLen]; omega)
    · omega
    · simp
    · rw [List.flatMap_append]; rfl
    intro A85 c85
    refine R_next ⟨.inl rfl, .inl rfl, trivial⟩ ?_
    refine Rf_ 8 6 rfl rfl rfl rfl rfl _ trivial (Y.z (y_assign rfl rfl) rfl) ?_
    refine R_go (fun _ _ h => h) ?_
    refine T_region ?_
    refine s1 (y_bin rfl rfl rfl (fun hg => b_add (by omega))) ?_
    refine sr 1 ?_
    refine S_nil (nK4 (kf := [(6, 6), (13, 13), (74, 86)]) (kl := [(6, 6), (13, 13), (74, 86)]) (i2 + 1) (o3 ++ [x.k, plS x.t]) A85 c85 ?_ ?_ ?_ ?_)
    · omega
    · exact ⟨by omega, by rw [← hs2, hx2, List.append_assoc]; rfl, by simp; omega⟩
    · exact ⟨rfl, rfl, trivial⟩
    · exact ⟨rfl, trivial⟩
  try simp only [nrm] at h75
  refine egx ?_
  refine sr 2 ?_
  refine sgo ?_
  refine tr1 hRb fun w hM => ?_
  have ea : ptA fs.l = [] := by rw [← hp2, hft.end (by omega)]; rfl
  have e : ptFs fs.l = o3 := by rw [ptFs, ea, if_neg (by decide), ← hs2, hft.end (by omega), show ptB [] = [] from rfl, List.append_nil]
  rw [e]
  exact ⟨A3, c3, rfl, hM.sat 6 _ rfl, hM.below⟩
theorem plF_len : ∀ (n : Nat) (s : List UInt8), (plF n s).length ≤ 3 * s.length
  | 0, s => Nat.zero_le _
  | n + 1, s => by
    unfold plF
    by_cases h0 : s = []
    · rw [if_pos h0]; exact Nat.zero_le _
    · rw [if_neg h0, List.length_append]
      have h1 := plF_len n (stP s).2
      have h2 := stP_lt h0
      have h3 : (stP s).1.length ≤ 3 := by
        unfold stP
        split
        · exact Nat.le_refl _
        split
        · exact Nat.le_refl _
        split
        · exact Nat.le_refl _
        · show 1 ≤ 3; decide
      omega
theorem goP_len (k : List UInt8) : ∀ (b : Bool) (l : List Mk), (goP k b l).length ≤ 2 * l.length
  | _, [] => Nat.le_refl _
  | b, m :: r => by
    unfold goP
    have h1 := goP_len k false r
    have h2 := goP_len k b r
    split
    · rw [List.length_append, List.length_cons]; split <;> simp <;> omega
    · rw [List.length_cons]; omega
theorem goP_in (k : List UInt8) : ∀ (b : Bool) (l : List Mk), ∀ s ∈ goP k b l, s = k ∨ ∃ m ∈ l, s = wdM m
  | _, [] => fun s hs => by cases hs
  | b, m :: r => fun s hs => by
    have key : ∀ b', s ∈ goP k b' r → s = k ∨ ∃ m' ∈ m :: r, s = wdM m' := fun b' h => by
      rcases goP_in k b' r s h with h | ⟨m', h1, h2⟩
      · exact .inl h
      · exact .inr ⟨m', List.mem_cons_of_mem _ h1, h2⟩
    unfold goP at hs
    split at hs
    · rcases List.mem_append.1 hs with h | h
      · split at h
        · rcases List.mem_cons.1 h with h | h
          · exact .inl h
          · exact .inr ⟨m, by simp, List.mem_singleton.1 h⟩
        · exact .inr ⟨m, by simp, List.mem_singleton.1 h⟩
      · exact key _ h
    · exact key _ hs
theorem flatB {α β : Type} {f : α → List β} {B : Nat} : ∀ {l : List α}, (∀ x ∈ l, (f x).length ≤ B) → (l.flatMap f).length ≤ l.length * B
  | [], _ => by simp
  | a :: r, h => by
    have h1 := flatB (l := r) fun x hx => h x (List.mem_cons_of_mem _ hx)
    have h2 := h a (by simp)
    rw [List.flatMap_cons, List.length_append, List.length_cons, Nat.add_mul]; omega
theorem ptFs_ok {l : List Flt} (hq : l.length ≤ 10) (hn : ∀ f ∈ l, FlN f) : (ptFs l).length ≤ 1000000000 ∧ ∀ s ∈ ptFs l, s.length ≤ 4611686018427387904 := by
  have ha : (ptA l).length ≤ l.length * 400 := flatB fun f hf => by
    have h1 := goP_len f.k true (mrk f.fr.l)
    have h2 := (hn f hf).q
    rw [mrk, mkL, List.length_map, List.length_map] at h1
    show (goP f.k true (mrk f.fr.l)).length ≤ 400
    rw [mrk, mkL]; omega
  have hb : (ptB l).length ≤ l.length * 2 := flatB fun f hf => Nat.le_refl _
  unfold ptFs
  split
  · refine ⟨by omega, fun s hs => ?_⟩
    obtain ⟨f, hf, hs⟩ := List.mem_flatMap.1 hs
    have hfn := hn f hf
    rcases goP_in f.k true _ s hs with rfl | ⟨m, hm, rfl⟩
    · exact Nat.le_trans hfn.k (by decide)
    · obtain ⟨m1, h1, rfl⟩ := List.mem_map.1 hm
      obtain ⟨y, h2, rfl⟩ := List.mem_map.1 h1
      obtain ⟨a, b, _⟩ := (hfn.n y h2).s
      show (y.m ++ [33] ++ y.f).length ≤ _
      simp only [List.length_append, List.length_cons, List.length_nil]; omega
  · refine ⟨by omega, fun s hs => ?_⟩
    obtain ⟨f, hf, hs⟩ := List.mem_flatMap.1 hs
    have hfn := hn f hf
    have h1 := plF_len f.t.length f.t
    have h2 := hfn.t
    have h3 := hfn.k
    rcases List.mem_cons.1 hs with rfl | hs
    · omega
    · rw [List.mem_singleton.1 hs]; show (plF f.t.length f.t).length ≤ _; omega
/-! ### Parts and Print -/
theorem CheckRules0_any (w : World) : Calls Tryz.prog 178 #[.slice none 0 0] w fun e w' => e = .returned (.int .i64 0) ∧ Below w.heap.size w w' := by
  refine enter_args (args := [.slice none 0 0]) (F := _) Tryz.func178 rfl Tryz.ntmps178 rfl rfl ?_
  intro Rb hRb hRn
  refine tx ?_
  refine sr 1 ?_
  refine sgs ?_
  refine tx ?_
  refine sr 1 ?_
  refine s1 (y_len_slice rfl rfl Tryz.underlying95) ?_
  refine sr 1 ?_
  refine sgo ?_
  refine T_cond rfl ?_ ?_ <;> intro h8
  · skip
    exact absurd h8 (by decide)
  refine kgs ?_
  refine tx ?_
  refine sr 1 ?_
  refine s1 (y_len_slice rfl rfl Tryz.underlying95) ?_
  refine sr 1 ?_
  refine sgo ?_
  refine T_block ?_
  refine lK1 (kf := [(2, 2), (4, 5), (11, 20)]) (kl := [(2, 2), (4, 5), (11, 20)]) (fun (k : Nat) => [(11, true, .int .i64 (k : Int))]) (fun (k : Nat) => []) (fun (k : Nat) => k ≤ 0) (fun (k : Nat) => 0) 0 ?_ ?_ ?_ ?_
  · omega
  · exact ⟨rfl, trivial⟩
  · exact trivial
  rintro k hk
  refine tx ?_
  refine sr 1 ?_
  refine sgs ?_
  refine T_cond rfl ?_ ?_ <;> intro h12
  · try simp only [nrm] at h12
    omega
  try simp only [nrm] at h12
  refine egx ?_
  refine sr 1 ?_
  refine sgo ?_
  refine tr1 hRb fun w hM => ?_
  exact ⟨rfl, hM.below⟩
theorem checkBoth_any (fs : Sl Flt) (w : World) (hf : FltsOk w fs) : Calls Tryz.prog 87 #[.slice none 0 0, .slice fs.A fs.q fs.c] w fun e w' => e = .returned (.int .i64 (faultsNo fs)) ∧ Below w.heap.size w w' := by
  refine enter_args (args := [.slice none 0 0, .slice fs.A fs.q fs.c]) (F := _) Tryz.func87 rfl Tryz.ntmps87 rfl rfl ?_
  intro Rb hRb hRn
  refine tx ?_
  refine sr 1 ?_
  refine sgs ?_
  refine tx ?_
  refine sr 1 ?_
  refine s1 (y_call rfl rfl rfl cf178 (fun _ w _ => CheckRules0_any w)) ?_
  refine sr 1 ?_
  refine sgx ?_
  refine sr 2 ?_
  refine sgo ?_
  refine T_cond rfl ?_ ?_ <;> intro h9
  · skip
    exact absurd h9 (by decide)
  refine kgx ?_
  refine sr 1 ?_
  refine s1 (y_call rfl rfl rfl cf21 (fun _ w1 hM => sCheck_any fs w1 (hf.below hM.below))) ?_
  refine sr 1 ?_
  refine sgo ?_
  refine tr1 hRb fun w hM => ?_
  exact ⟨rfl, hM.below⟩
theorem Parts_any (fs : Sl Flt) (w : World) (hf : FltsOk w fs) (h0 : faultsNo fs = 0) :
    Calls Tryz.prog 42 #[.slice none 0 0, .slice fs.A fs.q fs.c] w fun e w' => ∃ A c, e = .returned (.tuple #[.slice A (ptFs fs.l).length c, .int .i64 0]) ∧
      w'.ownsRow w.heap.size 9 1 (.slice A (ptFs fs.l).length c) (ptFs fs.l).length ((ptFs fs.l).flatMap strE) ∧ Below w.heap.size w w' := by
  refine enter_args (args := [.slice none 0 0, .slice fs.A fs.q fs.c]) (F := _) Tryz.func42 rfl Tryz.ntmps42 rfl rfl ?_
  intro Rb hRb hRn
  refine tx ?_
  refine S_nilSlice 4 (e := 9) (size := 1) ?_
  refine sr 2 ?_
  refine sgs ?_
  refine tx ?_
  refine sr 2 ?_
  refine s1 (y_as (v' := .int .i64 0) (by rw [h0]) (y_call rfl rfl rfl cf87 (fun _ w1 hM => checkBoth_any fs w1 (hf.below hM.below)))) ?_
  refine sr 1 ?_
  refine sgx ?_
  refine sr 2 ?_
  refine sgo ?_
  refine T_cond rfl ?_ ?_ <;> intro h11
  · skip
    exact absurd h11 (by decide)
  refine kgx ?_
  refine sr 2 ?_
  refine S_callOwn 15 15 rfl rfl rfl rfl rfl rfl rfl cf88 (fun A c => .slice A ((ptFs fs.l).length) c) 9 1 ((ptFs fs.l).length) ((ptFs fs.l).flatMap strE) (fun w1 hM => partsOf_any fs w1 (hf.below hM.below) h0) ?_
  intro A15 c15
  refine sr 2 ?_
  refine sgo ?_
  refine tr2 hRb fun w hM => ?_
  exact ⟨A15, c15, rfl, hM.sat 15 _ rfl, hM.below⟩
def prS (l : List Flt) : List UInt8 := digS (ptFs l)
theorem Print_any (fs : Sl Flt) (w : World) (hf : FltsOk w fs) (h0 : faultsNo fs = 0) (hT : TzTab w) :
    Calls Tryz.prog 12 #[.slice none 0 0, .slice fs.A fs.q fs.c] w fun e w' => e = .returned (.tuple #[str (prS fs.l), .int .i64 0]) ∧ Below w.heap.size w w' := by
  obtain ⟨_, hfq, hfn⟩ := faultsNo_right hf h0
  have hfl := hf.ok.t.len
  have hpt := ptFs_ok (by omega) hfn
  refine enter_args (args := [.slice none 0 0, .slice fs.A fs.q fs.c]) (F := _) Tryz.func12 rfl Tryz.ntmps12 rfl rfl ?_
  intro Rb hRb hRn
  refine tx ?_
  refine sr 2 ?_
  refine sgx ?_
  refine sr 2 ?_
  refine S_callOwn 11 11 rfl rfl rfl rfl rfl rfl rfl cf42 (fun A c => .tuple #[.slice A (ptFs fs.l).length c, .int .i64 0]) 9 1 ((ptFs fs.l).length) ((ptFs fs.l).flatMap strE) (fun w1 hM => Parts_any fs w1 (hf.below hM.below) h0) ?_
  intro A11 c11
  refine sr 5 ?_
  refine sgs ?_
  refine tx ?_
  refine sr 2 ?_
  refine sgo ?_
  refine T_cond rfl ?_ ?_ <;> intro h15
  · skip
    exact absurd h15 (by decide)
  refine kgx ?_
  refine sr 1 ?_
  refine s1 (y_call rfl rfl rfl cf43 (fun _ w1 hM => Digest_any A11 (ptFs fs.l).length c11 (ptFs fs.l) w1 (row_ok (enc := strE) (hM.sat 11 _ rfl) rfl).t hpt.2 (hT.below hM.below) hpt.1)) ?_
  refine sr 2 ?_
  refine sgo ?_
  refine tr2 hRb fun w hM => ?_
  exact ⟨rfl, hM.below⟩
end Go.Proofs.YtgbldojgbpgjbaaGreatDoor
end
section
namespace Go.Proofs.YtgbldojgbpgjbaaGreatDoor.Sy
set_option linter.unusedSimpArgs false
set_option linter.unusedVariables false
set_option maxRecDepth 20000
open Go.RowKit Go.Eng
theorem outside_any (n lo hi : Int) (w : World) :
    Calls Tryz.prog 154 #[.int .i64 n, .int .i64 lo, .int .i64 hi] w fun e w' => e = .returned (.bool (decide (n < lo) || decide (hi < n))) ∧ Below w.heap.size w w' := by
  refine enter_args (args := [.int .i64 n, .int .i64 lo, .int .i64 hi]) (F := _) Tryz.func154 rfl Tryz.ntmps154 rfl rfl ?_
  intro Rb hRb hRn
  refine tx ?_
  refine sr 1 ?_
  refine sgx ?_
  refine sr 4 ?_
  refine sg rfl (y_move rfl rfl) ?_
  refine sg rfl (y_move rfl rfl) ?_
  refine sg rfl (y_bin rfl rfl rfl (fun _ => b_gtr)) ?_
  refine s1 (y_or rfl rfl rfl) ?_
  refine sr 1 ?_
  refine sgo ?_
  refine tr1 hRb fun w hM => ?_
  exact ⟨rfl, hM.below⟩
end Go.Proofs.YtgbldojgbpgjbaaGreatDoor.Sy
end
section
namespace Go.Proofs.YtgbldojgbpgjbaaGreatDoor.Sy
set_option linter.unusedSimpArgs false
set_option linter.unusedVariables false
set_option maxRecDepth 20000
open Go.RowKit Go.Eng
theorem IndexByte_any (s : List UInt8) (c : UInt8) (w : World) :
    Calls Tryz.prog 210 #[str s, .int .u8 (c.toNat : Int)] w fun e w' => e = .returned (.int .i64 (Lib.indexByte s c)) ∧ Below w.heap.size w w' := by
  refine (Tryz.strings_IndexByte ⟨s.toArray⟩ (c.toNat : Int) w).mono fun e w' ⟨h1, h2⟩ => ⟨?_, h2 ▸ Below.refl _ _⟩
  rw [h1]; simp
theorem Contains_any (s : List UInt8) (c : UInt8) (w : World) :
    Calls Tryz.prog 72 #[str s, str [c]] w fun e w' => e = .returned (.bool (s.contains c)) ∧ Below w.heap.size w w' := by
  refine (Tryz.strings_Contains_one ⟨s.toArray⟩ c w).mono fun e w' ⟨h1, h2⟩ => ⟨?_, h2 ▸ Below.refl _ _⟩
  rw [h1, Lib.contains_iff_indexByte]
def hexs : List UInt8 := [48, 49, 50, 51, 52, 53, 54, 55, 56, 57, 97, 98, 99, 100, 101, 102]
theorem TrimHex_any (s : List UInt8) (hs : s.length ≤ 1000) (w : World) :
    Calls Tryz.prog 60 #[str s, str hexs] w fun e w' => e = .returned (str (Lib.trimS s hexs)) ∧ Below w.heap.size w w' :=
  Any.strings_Trim_laid Tryz.lays160 (by kernel_rfl) ⟨s.toArray⟩ ⟨hexs.toArray⟩ w (by rw [Lib.size_eq]; simp; omega) (by decide) (ascii_of_all (by decide))

/-- 16 digits of base 16 -/
def idOk (s : List UInt8) : Bool := decide ((s.length : Int) = 16) && decide (Lib.trimS s hexs = [])
theorem IsId_any (s : List UInt8) (w : World) :
    Calls Tryz.prog 153 #[str s] w fun e w' => e = .returned (.bool (idOk s)) ∧ Below w.heap.size w w' := by
  refine enter_args (args := [str s]) (F := _) Tryz.func153 rfl Tryz.ntmps153 rfl rfl ?_
  intro Rb hRb hRn
  refine tx ?_
  refine sr 1 ?_
  refine sgx ?_
  refine sr 1 ?_
  refine s1 (y_len_str rfl rfl Tryz.underlying9) ?_
  refine sr 2 ?_
  refine sg rfl (y_move rfl rfl) ?_
  refine sg rfl (y_call rfl rfl rfl cf60 (fun hg w _ => TrimHex_any s (by simp only [Bool.true_and, Bool.and_eq_true, beq_iff_eq, decide_eq_true_eq, decide_eq_false_iff_not, Int.not_lt, Int.not_le] at hg; omega) w)) ?_
  refine sg rfl (y_bin rfl rfl rfl (fun _ => b_eqls)) ?_
  refine s1 (y_and rfl rfl rfl) ?_
  refine sr 1 ?_
  refine sgo ?_
  refine tr1 hRb fun w hM => ?_
  exact ⟨rfl, hM.below⟩
/-- visible bytes alone, none of some others -/
def byteBad (wo : List UInt8) (c : UInt8) : Bool := decide ((c.toNat : Int) < 33) || decide ((126 : Int) < (c.toNat : Int)) || wo.contains c
def wordOk (wo s : List UInt8) : Bool := !(s.any (byteBad wo))
theorem wordOk_bad {wo : List UInt8} {c : UInt8} {r : List UInt8} (h : byteBad wo c = true) : wordOk wo (c :: r) = false := by simp [wordOk, h]
theorem wordOk_next {wo : List UInt8} {c : UInt8} {r : List UInt8} (h : byteBad wo c = false) : wordOk wo (c :: r) = wordOk wo r := by simp [wordOk, h]
theorem isWord_any (s wo : List UInt8) (hs : s.length ≤ 4611686018427387904) (w : World) :
    Calls Tryz.prog 148 #[str s, str wo] w fun e w' => e = .returned (.bool (wordOk wo s)) ∧ Below w.heap.size w w' := by
  refine enter_args (args := [str s, str wo]) (F := _) Tryz.func148 rfl Tryz.ntmps148 rfl rfl ?_
  intro Rb hRb hRn
  refine tx ?_
  refine sr 1 ?_
  refine sgs ?_
  refine tx ?_
  refine sr 1 ?_
  refine s1 (y_len_str rfl rfl Tryz.underlying9) ?_
  refine sr 1 ?_
  refine sgo ?_
  refine T_block ?_
  refine lK1 (kf := [(4, 5), (8, 29)]) (kl := [(4, 5), (8, 29)]) (fun (i : Nat) => [(8, true, .int .i64 (i : Int))]) (fun (i : Nat) => []) (fun (i : Nat) => i ≤ s.length ∧ wordOk wo s = wordOk wo (s.drop i)) (fun (i : Nat) => s.length - i) 0 ?_ ?_ ?_ ?_
  · exact ⟨by omega, rfl⟩
  · exact ⟨rfl, trivial⟩
  · exact trivial
  rintro i ⟨hp1, hp2⟩
  refine tx ?_
  refine sr 1 ?_
  refine sgs ?_
  refine T_cond rfl ?_ ?_ <;> intro h9
  · try simp only [nrm] at h9
    refine kgs ?_
    refine T_block ?_
    refine tx ?_
    refine sr 2 ?_
    refine sgx ?_
    refine sr 2 ?_
    refine s1 (y_index_str rfl rfl rfl Tryz.underlying9 (fun _ => by omega)) ?_
    refine sr 2 ?_
    refine sg rfl (y_move rfl rfl) ?_
    refine sg rfl (y_move rfl rfl) ?_
    refine sg rfl (y_index_str rfl rfl rfl Tryz.underlying9 (fun hg => by simp only [Bool.true_and, Bool.and_eq_true, beq_iff_eq, decide_eq_true_eq, decide_eq_false_iff_not, Int.not_lt, Int.not_le] at hg; omega)) ?_
    refine sg rfl (y_bin rfl rfl rfl (fun _ => b_gtr)) ?_
    refine s1 (y_or rfl rfl rfl) ?_
    refine sr 1 ?_
    refine sg rfl (y_move rfl rfl) ?_
    refine sg rfl (y_move rfl rfl) ?_
    refine sg rfl (y_move rfl rfl) ?_
    refine sg rfl (y_index_str rfl rfl rfl Tryz.underlying9 (fun hg => by simp only [Bool.true_and, Bool.and_eq_true, beq_iff_eq, decide_eq_true_eq, decide_eq_false_iff_not, Int.not_lt, Int.not_le] at hg; omega)) ?_
    refine sg rfl (y_call rfl rfl rfl cf210 (fun _ w _ => IndexByte_any _ _ w)) ?_
    refine sg rfl (y_as (v' := .bool (wo.contains (s.getD i 0))) (by rw [Lib.contains_iff_indexByte]) (y_bin rfl rfl rfl (fun _ => b_geq))) ?_
    refine s1 (y_as (v' := .bool (byteBad wo (s.getD i 0))) (by exact rfl) (y_or rfl rfl rfl)) ?_
    refine sgo ?_
    refine T_cond rfl ?_ ?_ <;> intro h28
    · skip
      refine tx ?_
      refine sr 1 ?_
      refine sgo ?_
      refine tr1 hRb fun w hM => ?_
      exact ⟨by rw [hp2, drop_str (by omega), wordOk_bad h28], hM.below⟩
    refine kgr ?_
    refine s1 (y_bin rfl rfl rfl (fun hg => b_add (by omega))) ?_
    refine sr 1 ?_
    refine S_nil (nK1 (kf := [(4, 5), (8, 29)]) (kl := [(4, 5), (8, 29)]) (i + 1) ?_ ?_ ?_ ?_)
    · omega
    · exact ⟨by omega, by rw [hp2, drop_str (by omega), wordOk_next h28]⟩
    · exact ⟨rfl, trivial⟩
    · exact trivial
  try simp only [nrm] at h9
  refine egx ?_
  refine sr 1 ?_
  refine sgo ?_
  refine tr1 hRb fun w hM => ?_
  exact ⟨by rw [hp2, List.drop_eq_nil_of_le (by omega)]; rfl, hM.below⟩
end Go.Proofs.YtgbldojgbpgjbaaGreatDoor.Sy
end
section
namespace Go.Proofs.YtgbldojgbpgjbaaGreatDoor.Sy
set_option linter.unusedSimpArgs false
set_option linter.unusedVariables false
set_option maxRecDepth 20000
open Go.RowKit Go.Eng
abbrev marks : List UInt8 := [40, 41, 58, 44]
/-- the fault of three words of a frame -/
def wordsNo (m f fi : List UInt8) : Int :=
  if (decide ((200 : Int) < (m.length : Int)) || decide ((200 : Int) < (f.length : Int)) || decide ((200 : Int) < (fi.length : Int))) = true then 4
  else if (!(wordOk marks m) || !(wordOk marks f) || !(wordOk marks fi)) = true then 9
  else if f = [] then 1 else 0
theorem if_t {α : Type} {c : Bool} {a b : α} (h : c = true) : (if c = true then a else b) = a := if_pos h
theorem if_f {α : Type} {c : Bool} {a b : α} (h : c = false) : (if c = true then a else b) = b := if_neg (by simp [h])
structure Frm where
  m : List UInt8
  f : List UInt8
  fi : List UInt8
  ln : Int
  ad : Int
  own : Bool
def Frm.enc (x : Frm) : List Value := [str x.m, str x.f, str x.fi, .int .i64 x.ln, .int .i64 x.ad, .bool x.own]
def Frm.val (x : Frm) : Value := .agg x.enc.toArray
/-- the fault of a frame -/
def frmNo (x : Frm) : Int :=
  if wordsNo x.m x.f x.fi ≠ 0 then wordsNo x.m x.f x.fi
  else if (decide (x.ln < 0) || decide (9999999 < x.ln) || (decide (x.ad < -1) || decide (281474976710655 < x.ad))) = true then 2
  else if x.ln ≠ 0 ∧ x.fi = [] then 1 else 0
theorem frmNo_words {x : Frm} {k : Int} (h : wordsNo x.m x.f x.fi = k) (hk : k ≠ 0) : frmNo x = k := by unfold frmNo; rw [h, if_pos hk]
theorem frmNo_rest {x : Frm} (h : wordsNo x.m x.f x.fi = 0) : frmNo x = if (decide (x.ln < 0) || decide (9999999 < x.ln) || (decide (x.ad < -1) || decide (281474976710655 < x.ad))) = true then 2
  else if x.ln ≠ 0 ∧ x.fi = [] then 1 else 0 := by unfold frmNo; rw [h, if_neg (by simp)]
theorem soutside_any (n lo hi : Int) (w : World) :
    Calls Tryz.prog 71 #[.int .i64 n, .int .i64 lo, .int .i64 hi] w fun e w' => e = .returned (.bool (decide (n < lo) || decide (hi < n))) ∧ Below w.heap.size w w' := by
  refine enter_args (args := [.int .i64 n, .int .i64 lo, .int .i64 hi]) (F := _) Tryz.func71 rfl Tryz.ntmps71 rfl rfl ?_
  intro Rb hRb hRn
  refine tx ?_
  refine sr 1 ?_
  refine sgx ?_
  refine sr 4 ?_
  refine sg rfl (y_move rfl rfl) ?_
  refine sg rfl (y_move rfl rfl) ?_
  refine sg rfl (y_bin rfl rfl rfl (fun _ => b_gtr)) ?_
  refine s1 (y_or rfl rfl rfl) ?_
  refine sr 1 ?_
  refine sgo ?_
  refine tr1 hRb fun w hM => ?_
  exact ⟨rfl, hM.below⟩
theorem CheckFrame_any (x : Frm) (hl1 : x.m.length ≤ 4611686018427387904) (hl2 : x.f.length ≤ 4611686018427387904) (hl3 : x.fi.length ≤ 4611686018427387904) (w : World) :
    Calls Tryz.prog 152 #[x.val] w fun e w' => e = .returned (.int .i64 (frmNo x)) ∧ Below w.heap.size w w' := by
  obtain ⟨m, f, fi, ln, ad, own⟩ := x
  simp only at hl1 hl2 hl3
  refine enter_args (args := [.agg #[str m, str f, str fi, .int .i64 ln, .int .i64 ad, .bool own]]) (F := _) Tryz.func152 rfl Tryz.ntmps152 rfl rfl ?_
  intro Rb hRb hRn
  refine tx ?_
  refine S_box 1 1 rfl rfl rfl rfl rfl ?_
  intro b1
  refine sr 1 ?_
  refine sgs ?_
  refine T_block ?_
  refine tx ?_
  refine s1 (yF fa45_0) ?_
  refine s1 (yL 1 Tryz.underlying9) ?_
  refine s1 (y_len_str rfl rfl Tryz.underlying9) ?_
  refine sr 2 ?_
  refine sg rfl (yF fa45_1) ?_
  refine sg rfl (yL 1 Tryz.underlying9) ?_
  refine sg rfl (y_len_str rfl rfl Tryz.underlying9) ?_
  refine sg rfl (y_bin rfl rfl rfl (fun _ => b_gtr)) ?_
  refine s1 (y_or rfl rfl rfl) ?_
  refine sr 1 ?_
  refine sg rfl (yF fa45_2) ?_
  refine sg rfl (yL 1 Tryz.underlying9) ?_
  refine sg rfl (y_len_str rfl rfl Tryz.underlying9) ?_
  refine sg rfl (y_bin rfl rfl rfl (fun _ => b_gtr)) ?_
  refine s1 (y_or rfl rfl rfl) ?_
  refine sr 1 ?_
  refine sgo ?_
  refine T_cond rfl ?_ ?_ <;> intro h3
  · skip
    refine tx ?_
    refine sr 1 ?_
    refine sgo ?_
    refine tr1 hRb fun w hM => ?_
    exact ⟨by rw [frmNo_words (x := ⟨m, f, fi, ln, ad, own⟩) (if_t h3) (by decide)], hM.below⟩
  refine tx ?_
  refine s1 (yF fa45_0) ?_
  refine s1 (yL 1 Tryz.underlying9) ?_
  refine s1 (y_call rfl rfl rfl cf148 (fun hg w _ => isWord_any _ _ (by first | omega | (have := hsz; omega)) w)) ?_
  refine sr 2 ?_
  refine sg rfl (yF fa45_1) ?_
  refine sg rfl (yL 1 Tryz.underlying9) ?_
  refine sg rfl (y_call rfl rfl rfl cf148 (fun hg w _ => isWord_any _ _ (by first | omega | (have := hsz; omega)) w)) ?_
  refine sg rfl (y_not rfl rfl) ?_
  refine s1 (y_or rfl rfl rfl) ?_
  refine sr 1 ?_
  refine sg rfl (yF fa45_2) ?_
  refine sg rfl (yL 1 Tryz.underlying9) ?_
  refine sg rfl (y_call rfl rfl rfl cf148 (fun hg w _ => isWord_any _ _ (by first | omega | (have := hsz; omega)) w)) ?_
  refine sg rfl (y_not rfl rfl) ?_
  refine s1 (y_or rfl rfl rfl) ?_
  refine sr 1 ?_
  refine sgo ?_
  refine T_cond rfl ?_ ?_ <;> intro h20
  · skip
    refine tx ?_
    refine sr 1 ?_
    refine sgo ?_
    refine tr1 hRb fun w hM => ?_
    exact ⟨by rw [frmNo_words (x := ⟨m, f, fi, ln, ad, own⟩) ((if_f h3).trans (if_t h20)) (by decide)], hM.below⟩
  refine tx ?_
  refine s1 (yF fa45_1) ?_
  refine s1 (yL 1 Tryz.underlying9) ?_
  refine s1 (y_bin rfl rfl rfl (fun _ => b_eqls)) ?_
  refine sr 1 ?_
  refine sgo ?_
  refine T_cond rfl ?_ ?_ <;> intro h37
  · skip
    refine tx ?_
    refine sr 1 ?_
    refine sgo ?_
    refine tr1 hRb fun w hM => ?_
    exact ⟨by rw [frmNo_words (x := ⟨m, f, fi, ln, ad, own⟩) ((if_f h3).trans ((if_f h20).trans (if_pos (by simpa using h37)))) (by decide)], hM.below⟩
  refine tx ?_
  refine s1 (yF fa45_3) ?_
  refine s1 (yL 1 Tryz.underlying3) ?_
  refine s1 (y_call rfl rfl rfl cf71 (fun _ w _ => soutside_any _ _ _ w)) ?_
  refine sr 1 ?_
  refine sg rfl (yF fa45_4) ?_
  refine sg rfl (yL 1 Tryz.underlying3) ?_
  refine sg rfl (y_call rfl rfl rfl cf71 (fun _ w _ => soutside_any _ _ _ w)) ?_
  refine s1 (y_or rfl rfl rfl) ?_
  refine sr 1 ?_
  refine sgo ?_
  refine T_cond rfl ?_ ?_ <;> intro h41
  · skip
    refine tx ?_
    refine sr 1 ?_
    refine sgo ?_
    refine tr1 hRb fun w hM => ?_
    exact ⟨by rw [frmNo_rest (x := ⟨m, f, fi, ln, ad, own⟩) ((if_f h3).trans ((if_f h20).trans (if_neg (by simpa using h37)))), if_t h41], hM.below⟩
  refine tx ?_
  refine s1 (yF fa45_3) ?_
  refine s1 (yL 1 Tryz.underlying3) ?_
  refine sr 2 ?_
  refine sg rfl (yF fa45_2) ?_
  refine sg rfl (yL 1 Tryz.underlying9) ?_
  refine sg rfl (y_bin rfl rfl rfl (fun _ => b_eqls)) ?_
  refine s1 (y_and rfl rfl rfl) ?_
  refine sr 1 ?_
  refine sgo ?_
  refine T_cond rfl ?_ ?_ <;> intro h50
  · skip
    refine tx ?_
    refine sr 1 ?_
    refine sgo ?_
    refine tr1 hRb fun w hM => ?_
    exact ⟨by rw [frmNo_rest (x := ⟨m, f, fi, ln, ad, own⟩) ((if_f h3).trans ((if_f h20).trans (if_neg (by simpa using h37)))), if_f h41, if_pos (by simpa using h50)], hM.below⟩
  refine kgx ?_
  refine sr 1 ?_
  refine sgo ?_
  refine tr1 hRb fun w hM => ?_
  exact ⟨by rw [frmNo_rest (x := ⟨m, f, fi, ln, ad, own⟩) ((if_f h3).trans ((if_f h20).trans (if_neg (by simpa using h37)))), if_f h41, if_neg (by simpa using h50)], hM.below⟩

/-! ### The reference's -/
/-- the fault of a function's name in a table -/
def nameNo (s : List UInt8) : Int := if wordsNo [] s [] ≠ 0 then wordsNo [] s [] else if s.contains 33 = true then 9 else 0
theorem frmNo_name (s : List UInt8) : frmNo ⟨[], s, [], 0, -1, false⟩ = wordsNo [] s [] := by
  unfold frmNo
  by_cases h : wordsNo [] s [] = 0 <;> simp [h]
theorem nameNo_nine {s : List UInt8} (h : ((decide (wordsNo [] s [] = 0) || decide (wordsNo [] s [] = 9)) && s.contains 33) = true) : nameNo s = 9 := by
  simp only [Bool.and_eq_true, Bool.or_eq_true, decide_eq_true_eq] at h
  unfold nameNo
  rcases h with ⟨h | h, h'⟩
  · rw [if_neg (by simp [h]), if_pos h']
  · rw [if_pos (by simp [h]), h]
theorem nameNo_same {s : List UInt8} (h : ((decide (wordsNo [] s [] = 0) || decide (wordsNo [] s [] = 9)) && s.contains 33) = false) : wordsNo [] s [] = nameNo s := by
  unfold nameNo
  by_cases h0 : wordsNo [] s [] = 0
  · simp only [h0, decide_true, Bool.true_or, Bool.true_and] at h
    rw [if_neg (by simp [h0]), if_f h, h0]
  · rw [if_pos h0]
theorem checkName_any (s : List UInt8) (hs : s.length ≤ 4611686018427387904) (w : World) :
    Calls Tryz.prog 212 #[str s] w fun e w' => e = .returned (.int .i64 (nameNo s)) ∧ Below w.heap.size w w' := by
  refine enter_args (args := [str s]) (F := _) Tryz.func212 rfl Tryz.ntmps212 rfl rfl ?_
  intro Rb hRb hRn
  refine tx ?_
  refine sr 1 ?_
  refine sgx ?_
  refine sr 1 ?_
  refine s1 (y_build (zv := .agg #[.string ⟨#[]⟩, .string ⟨#[]⟩, .string ⟨#[]⟩, .int .i64 0, .int .i64 0, .bool false]) (pl := [(0, 1), (1, 1), (2, 1), (3, 1), (4, 1), (5, 1)]) (out := [.string ⟨#[]⟩, _, .string ⟨#[]⟩, .int .i64 0, _, .bool false]) rfl rfl Tryz.underlying45 z45 (by kernel_rfl) rfl) ?_
  refine s1 (y_as (v' := .int .i64 (wordsNo [] s [])) (by rw [← frmNo_name s]) (y_call rfl rfl rfl cf152 (fun _ w _ => CheckFrame_any ⟨_, _, _, _, _, _⟩ (by first | omega | (simp; done) | (simp; omega) | (simp only; omega)) (by first | omega | (simp; done) | (simp; omega) | (simp only; omega)) (by first | omega | (simp; done) | (simp; omega) | (simp only; omega)) w))) ?_
  refine sr 1 ?_
  refine sgs ?_
  refine tx ?_
  refine sr 3 ?_
  refine sg rfl (y_move rfl rfl) ?_
  refine sg rfl (y_bin rfl rfl rfl (fun _ => b_eql)) ?_
  refine s1 (y_or rfl rfl rfl) ?_
  refine sr 1 ?_
  refine sg rfl (y_move rfl rfl) ?_
  refine sg rfl (y_call rfl rfl rfl cf72 (fun _ w _ => Contains_any _ _ w)) ?_
  refine s1 (y_and rfl rfl rfl) ?_
  refine sgo ?_
  refine T_cond rfl ?_ ?_ <;> intro h16
  · skip
    refine tx ?_
    refine sr 1 ?_
    refine sgo ?_
    refine tr1 hRb fun w hM => ?_
    exact ⟨by rw [nameNo_nine h16], hM.below⟩
  refine kgx ?_
  refine sr 2 ?_
  refine sgo ?_
  refine tr1 hRb fun w hM => ?_
  exact ⟨by rw [nameNo_same h16], hM.below⟩
end Go.Proofs.YtgbldojgbpgjbaaGreatDoor.Sy
end
section
namespace Go.Proofs.YtgbldojgbpgjbaaGreatDoor.Sy
set_option linter.unusedSimpArgs false
set_option linter.unusedVariables false
set_option maxRecDepth 20000
open Go.RowKit Go.Eng
structure SFunc where
  name : List UInt8
  fr : Int
  tu : Int
def SFunc.enc (f : SFunc) : List Value := [str f.name, .int .i64 f.fr, .int .i64 f.tu]
structure SRow where
  pos : Int
  fi : Int
  ln : Int
def SRow.enc (r : SRow) : List Value := [.int .i64 r.pos, .int .i64 r.fi, .int .i64 r.ln]
structure SCall where
  name : List UInt8
  fr : Int
  tu : Int
  fi : Int
  ln : Int
def SCall.enc (c : SCall) : List Value := [str c.name, .int .i64 c.fr, .int .i64 c.tu, .int .i64 c.fi, .int .i64 c.ln]
structure SMod where
  name : List UInt8
  id : List UInt8
  fr : Int
  tu : Int
def SMod.enc (m : SMod) : List Value := [str m.name, str m.id, .int .i64 m.fr, .int .i64 m.tu]
def strEnc (l : List UInt8) : List Value := [str l]
structure Tab where
  id : List UInt8
  size : Int
  fi : Sl (List UInt8)
  fu : Sl SFunc
  ro : Sl SRow
  ca : Sl SCall
def Tab.enc (t : Tab) : List Value := [str t.id, .int .i64 t.size, .slice t.fi.A t.fi.q t.fi.c, .slice t.fu.A t.fu.q t.fu.c, .slice t.ro.A t.ro.q t.ro.c, .slice t.ca.A t.ca.q t.ca.c]
structure Tab.Ok (w : World) (t : Tab) : Prop where
  fi : t.fi.Ok strEnc 1 w
  fu : t.fu.Ok SFunc.enc 3 w
  ro : t.ro.Ok SRow.enc 3 w
  ca : t.ca.Ok SCall.enc 5 w
  small : t.id.length ≤ 4611686018427387904 ∧ t.fi.q ≤ 4611686018427387904 ∧ t.fu.q ≤ 4611686018427387904 ∧ t.ro.q ≤ 4611686018427387904 ∧ t.ca.q ≤ 4611686018427387904
  names : (∀ s ∈ t.fi.l, s.length ≤ 4611686018427387904) ∧ (∀ f ∈ t.fu.l, f.name.length ≤ 4611686018427387904) ∧ (∀ f ∈ t.ca.l, f.name.length ≤ 4611686018427387904)
theorem Tab.Ok.below {w w' : World} {t : Tab} (h : t.Ok w) (hb : Below w.heap.size w w') : t.Ok w' := ⟨h.fi.below hb, h.fu.below hb, h.ro.below hb, h.ca.below hb, h.small, h.names⟩

/-- the place of the first that has p, from i on -/
def findI {α : Type} (p : α → Bool) : List α → Int → Int
  | [], _ => -1
  | a :: r, i => if p a = true then i else findI p r (i + 1)
theorem findI_t {α : Type} {p : α → Bool} {a : α} {r : List α} {i : Int} (h : p a = true) : findI p (a :: r) i = i := if_pos h
theorem findI_f {α : Type} {p : α → Bool} {a : α} {r : List α} {i : Int} (h : p a = false) : findI p (a :: r) i = findI p r (i + 1) := if_neg (by simp [h])
theorem findI_any {α : Type} (p : α → Bool) : ∀ (l : List α) (i : Int), 0 ≤ i → decide (0 ≤ findI p l i) = l.any p
  | [], i, _ => rfl
  | a :: r, i, h => by
    cases hp : p a
    · rw [findI_f hp, List.any_cons, hp, Bool.false_or]; exact findI_any p r (i + 1) (by omega)
    · rw [findI_t hp, List.any_cons, hp, Bool.true_or]; simpa using h
/-- what is found: its place, and whether it is -/
def found {α : Type} (p : α → Bool) (l : List α) : Value := .tuple #[.int .i64 (if findI p l 0 < 0 then 0 else findI p l 0), .bool (decide (0 ≤ findI p l 0))]
/-- a function value that answers p at any later time -/
def Asks (P : Program) {α : Type} (enc : α → List Value) (w : World) (g : FuncId) (cap : Array Value) (p : α → Bool) : Prop :=
  (∀ args w', (callFunc g args).run P w' = .ok (.enter g args) w') ∧ ∀ x w', Below w.heap.size w w' → Calls P g (#[.agg (enc x).toArray] ++ cap) w' fun e w'' => e = .returned (.bool (p x)) ∧ Below w'.heap.size w' w''

theorem IndexFuncF_any (A : Option Addr) (q c : Nat) (l : List SFunc) (g : FuncId) (cap : Array Value) (p : SFunc → Bool) (w : World) (hl : SlT SFunc.enc 3 w A q l) (hq : q ≤ 4611686018427387904) (hA : Asks Tryz.prog SFunc.enc w g cap p) :
    Calls Tryz.prog 214 #[.slice A q c, .func (.func g) #[] cap] w fun e w' => e = .returned (.int .i64 (findI p l 0)) ∧ Below w.heap.size w w' := by
  refine enter_args (args := [.slice A q c, .func (.func g) #[] cap]) (F := _) Tryz.func214 rfl Tryz.ntmps214 rfl rfl ?_
  intro Rb hRb hRn
  refine tx ?_
  refine sr 1 ?_
  refine sgs ?_
  refine tx ?_
  refine sr 1 ?_
  refine s1 (y_len_slice rfl rfl Tryz.underlying115) ?_
  refine sr 1 ?_
  refine sgo ?_
  refine T_block ?_
  refine lK1 (kf := [(4, 5), (8, 18)]) (kl := [(4, 5), (8, 18)]) (fun (i : Nat) => [(8, true, .int .i64 (i : Int))]) (fun (i : Nat) => []) (fun (i : Nat) => i ≤ q ∧ findI p l 0 = findI p (l.drop i) i) (fun (i : Nat) => q - i) 0 ?_ ?_ ?_ ?_
  · exact ⟨by omega, rfl⟩
  · exact ⟨rfl, trivial⟩
  · exact trivial
  rintro i ⟨hp1, hp2⟩
  refine tx ?_
  refine sr 1 ?_
  refine sgs ?_
  refine T_cond rfl ?_ ?_ <;> intro h9
  · try simp only [nrm] at h9
    obtain ⟨x, hx1, hx2⟩ := hl.at (i := i) (by omega)
    refine kgs ?_
    refine T_block ?_
    refine tx ?_
    refine sr 2 ?_
    refine sgx ?_
    refine sr 3 ?_
    refine s1 (y_indexAddr rfl rfl rfl Tryz.underlying115 sz193 (fun hg => hl.isSome (by omega)) (fun _ => by omega)) ?_
    refine s1 (y_loadT rfl rfl hl (fun _ => rfl) (fun _ => hx1) Tryz.underlying193 rfl sz193) ?_
    refine s1 (y_call rfl rfl rfl hA.1 (fun _ w hM => hA.2 x w hM.below)) ?_
    refine sgo ?_
    refine T_cond rfl ?_ ?_ <;> intro h16
    · try simp only [nrm] at h16
      refine tx ?_
      refine sr 2 ?_
      refine sgo ?_
      refine tr1 hRb fun w hM => ?_
      exact ⟨by rw [hp2, hx2, findI_t h16], hM.below⟩
    try simp only [nrm] at h16
    refine kgr ?_
    refine s1 (y_bin rfl rfl rfl (fun hg => b_add (by omega))) ?_
    refine sr 1 ?_
    refine S_nil (nK1 (kf := [(4, 5), (8, 18)]) (kl := [(4, 5), (8, 18)]) (i + 1) ?_ ?_ ?_ ?_)
    · omega
    · exact ⟨by omega, by rw [hp2, hx2, findI_f h16]; rfl⟩
    · exact ⟨rfl, trivial⟩
    · exact trivial
  try simp only [nrm] at h9
  refine egx ?_
  refine sr 1 ?_
  refine sgo ?_
  refine tr1 hRb fun w hM => ?_
  exact ⟨by rw [hp2, hl.end (by omega)]; rfl, hM.below⟩
theorem IndexFuncM_any (A : Option Addr) (q c : Nat) (l : List SMod) (g : FuncId) (cap : Array Value) (p : SMod → Bool) (w : World) (hl : SlT SMod.enc 4 w A q l) (hq : q ≤ 4611686018427387904) (hA : Asks Tryz.prog SMod.enc w g cap p) :
    Calls Tryz.prog 159 #[.slice A q c, .func (.func g) #[] cap] w fun e w' => e = .returned (.int .i64 (findI p l 0)) ∧ Below w.heap.size w w' := by
  refine enter_args (args := [.slice A q c, .func (.func g) #[] cap]) (F := _) Tryz.func159 rfl Tryz.ntmps159 rfl rfl ?_
  intro Rb hRb hRn
  refine tx ?_
  refine sr 1 ?_
  refine sgs ?_
  refine tx ?_
  refine sr 1 ?_
  refine s1 (y_len_slice rfl rfl Tryz.underlying27) ?_
  refine sr 1 ?_
  refine sgo ?_
  refine T_block ?_
  refine lK1 (kf := [(4, 5), (8, 18)]) (kl := [(4, 5), (8, 18)]) (fun (i : Nat) => [(8, true, .int .i64 (i : Int))]) (fun (i : Nat) => []) (fun (i : Nat) => i ≤ q ∧ findI p l 0 = findI p (l.drop i) i) (fun (i : Nat) => q - i) 0 ?_ ?_ ?_ ?_
  · exact ⟨by omega, rfl⟩
  · exact ⟨rfl, trivial⟩
  · exact trivial
  rintro i ⟨hp1, hp2⟩
  refine tx ?_
  refine sr 1 ?_
  refine sgs ?_
  refine T_cond rfl ?_ ?_ <;> intro h9
  · try simp only [nrm] at h9
    obtain ⟨x, hx1, hx2⟩ := hl.at (i := i) (by omega)
    refine kgs ?_
    refine T_block ?_
    refine tx ?_
    refine sr 2 ?_
    refine sgx ?_
    refine sr 3 ?_
    refine s1 (y_indexAddr rfl rfl rfl Tryz.underlying27 sz125 (fun hg => hl.isSome (by omega)) (fun _ => by omega)) ?_
    refine s1 (y_loadT rfl rfl hl (fun _ => rfl) (fun _ => hx1) Tryz.underlying125 rfl sz125) ?_
    refine s1 (y_call rfl rfl rfl hA.1 (fun _ w hM => hA.2 x w hM.below)) ?_
    refine sgo ?_
    refine T_cond rfl ?_ ?_ <;> intro h16
    · try simp only [nrm] at h16
      refine tx ?_
      refine sr 2 ?_
      refine sgo ?_
      refine tr1 hRb fun w hM => ?_
      exact ⟨by rw [hp2, hx2, findI_t h16], hM.below⟩
    try simp only [nrm] at h16
    refine kgr ?_
    refine s1 (y_bin rfl rfl rfl (fun hg => b_add (by omega))) ?_
    refine sr 1 ?_
    refine S_nil (nK1 (kf := [(4, 5), (8, 18)]) (kl := [(4, 5), (8, 18)]) (i + 1) ?_ ?_ ?_ ?_)
    · omega
    · exact ⟨by omega, by rw [hp2, hx2, findI_f h16]; rfl⟩
    · exact ⟨rfl, trivial⟩
    · exact trivial
  try simp only [nrm] at h9
  refine egx ?_
  refine sr 1 ?_
  refine sgo ?_
  refine tr1 hRb fun w hM => ?_
  exact ⟨by rw [hp2, hl.end (by omega)]; rfl, hM.below⟩
theorem FuncAt1_any (f : SFunc) (ad : Addr) (x : Int) (w : World) (hb : ad.block < w.heap.size) (hc : w.cell? ad = some (.int .i64 x)) :
    Calls Tryz.prog 215 #[.agg f.enc.toArray, .pointer (some ad)] w fun e w' => e = .returned (.bool (decide (f.fr ≤ x) && decide (x < f.tu))) ∧ Below w.heap.size w w' := by
  refine enter_args (args := [.agg #[str f.name, .int .i64 f.fr, .int .i64 f.tu], .pointer (some ad)]) (F := _) Tryz.func215 rfl Tryz.ntmps215 rfl rfl ?_
  intro Rb hRb hRn
  refine tx ?_
  refine S_box 2 2 rfl rfl rfl rfl rfl ?_
  intro b2
  refine sr 1 ?_
  refine sgx ?_
  refine s1 (yF fa193_1) ?_
  refine s1 (yL 2 Tryz.underlying3) ?_
  refine s1 (y_load_far rfl rfl hc hb Tryz.underlying3 rfl) ?_
  refine sr 2 ?_
  refine sg rfl (y_load_far rfl rfl hc hb Tryz.underlying3 rfl) ?_
  refine sg rfl (yF fa193_2) ?_
  refine sg rfl (yL 2 Tryz.underlying3) ?_
  refine sg rfl (y_bin rfl rfl rfl (fun _ => b_lss)) ?_
  refine s1 (y_and rfl rfl rfl) ?_
  refine sr 1 ?_
  refine sgo ?_
  refine tr1 hRb fun w hM => ?_
  exact ⟨rfl, hM.below⟩
theorem ModuleAt1_any (f : SMod) (ad : Addr) (x : Int) (w : World) (hb : ad.block < w.heap.size) (hc : w.cell? ad = some (.int .i64 x)) :
    Calls Tryz.prog 160 #[.agg f.enc.toArray, .pointer (some ad)] w fun e w' => e = .returned (.bool (decide (f.fr ≤ x) && decide (x < f.tu))) ∧ Below w.heap.size w w' := by
  refine enter_args (args := [.agg #[str f.name, str f.id, .int .i64 f.fr, .int .i64 f.tu], .pointer (some ad)]) (F := _) Tryz.func160 rfl Tryz.ntmps160 rfl rfl ?_
  intro Rb hRb hRn
  refine tx ?_
  refine S_box 2 2 rfl rfl rfl rfl rfl ?_
  intro b2
  refine sr 1 ?_
  refine sgx ?_
  refine s1 (yF fa125_2) ?_
  refine s1 (yL 2 Tryz.underlying3) ?_
  refine s1 (y_load_far rfl rfl hc hb Tryz.underlying3 rfl) ?_
  refine sr 2 ?_
  refine sg rfl (y_load_far rfl rfl hc hb Tryz.underlying3 rfl) ?_
  refine sg rfl (yF fa125_3) ?_
  refine sg rfl (yL 2 Tryz.underlying3) ?_
  refine sg rfl (y_bin rfl rfl rfl (fun _ => b_lss)) ?_
  refine s1 (y_and rfl rfl rfl) ?_
  refine sr 1 ?_
  refine sgo ?_
  refine tr1 hRb fun w hM => ?_
  exact ⟨rfl, hM.below⟩
def SFunc.has (x : Int) (f : SFunc) : Bool := decide (f.fr ≤ x) && decide (x < f.tu)
def SMod.has (x : Int) (f : SMod) : Bool := decide (f.fr ≤ x) && decide (x < f.tu)
theorem asks_FuncAt {b : Nat} {x : Int} {w : World} (h : w.cell? ⟨b, 0, none⟩ = some (.int .i64 x) ∧ b < w.heap.size) : Asks Tryz.prog SFunc.enc w 215 #[.pointer (some ⟨b, 0, none⟩)] (SFunc.has x) :=
  ⟨cf215, fun f w' hb => FuncAt1_any f ⟨b, 0, none⟩ x w' (Nat.lt_of_lt_of_le h.2 hb.size) ((hb.cell h.2).trans h.1)⟩
theorem asks_ModuleAt {b : Nat} {x : Int} {w : World} (h : w.cell? ⟨b, 0, none⟩ = some (.int .i64 x) ∧ b < w.heap.size) : Asks Tryz.prog SMod.enc w 160 #[.pointer (some ⟨b, 0, none⟩)] (SMod.has x) :=
  ⟨cf160, fun f w' hb => ModuleAt1_any f ⟨b, 0, none⟩ x w' (Nat.lt_of_lt_of_le h.2 hb.size) ((hb.cell h.2).trans h.1)⟩
end Go.Proofs.YtgbldojgbpgjbaaGreatDoor.Sy
end
section
namespace Go.Proofs.YtgbldojgbpgjbaaGreatDoor.Sy
set_option linter.unusedSimpArgs false
set_option linter.unusedVariables false
set_option maxRecDepth 20000
open Go.RowKit Go.Eng
def outB (n lo hi : Int) : Bool := decide (n < lo) || decide (hi < n)
def spanBad (size fr tu : Int) : Bool := outB fr 0 (size - 1) || outB tu (fr + 1) size
def filesNo : List (List UInt8) → List (List UInt8) → Int
  | _, [] => 0
  | seen, s :: r => if s = [] then 1 else if wordsNo [] [102] s ≠ 0 then wordsNo [] [102] s else if s ∈ seen then 6 else filesNo (seen ++ [s]) r
def funcsNo (size : Int) : List SFunc → Int → Int
  | [], _ => 0
  | f :: r, last => if nameNo f.name ≠ 0 then nameNo f.name else if spanBad size f.fr f.tu = true then 2 else if f.fr < last then 5 else funcsNo size r f.tu
def rowBad (size nf : Int) (r : SRow) : Bool := outB r.pos 0 (size - 1) || outB r.fi (-1) (nf - 1) || outB r.ln 0 9999999
def rowsNo (size nf : Int) : List SRow → Int → Int
  | [], _ => 0
  | r :: rest, last => if rowBad size nf r = true then 2 else if (decide (r.fi = -1) != decide (r.ln = 0)) = true then 1 else if r.pos ≤ last then 5 else rowsNo size nf rest r.pos
def SFunc.holds (c : SCall) (f : SFunc) : Bool := decide (f.fr ≤ c.fr) && decide (c.tu ≤ f.tu)
def apartB (b c : SCall) : Bool := decide (b.tu ≤ c.fr) || decide (c.tu ≤ b.fr)
def cutsB (b c : SCall) : Bool := decide (c.fr < b.fr) || decide (b.tu < c.tu)
def nestNo (c : SCall) : List SCall → Int → Int
  | [], deep => if 10 ≤ deep then 13 else 0
  | b :: r, deep => if apartB b c = true then nestNo c r deep else if cutsB b c = true then 11 else nestNo c r (deep + 1)
def callNo (fu : List SFunc) (before : List SCall) (c : SCall) : Int := if (!fu.any (SFunc.holds c)) = true then 11 else nestNo c before 0
def callBad (size nf : Int) (c : SCall) : Bool := spanBad size c.fr c.tu || outB c.fi 0 (nf - 1) || outB c.ln 1 9999999
def callLate (b c : SCall) : Bool := decide (c.fr < b.fr) || (decide (c.fr = b.fr) && decide (b.tu < c.tu))
def callsNo (size nf : Int) (fu : List SFunc) : List SCall → List SCall → SCall → Int
  | _, [], _ => 0
  | before, c :: r, b => if nameNo c.name ≠ 0 then nameNo c.name else if callBad size nf c = true then 2 else if callLate b c = true then 5
    else if callNo fu before c ≠ 0 then callNo fu before c else callsNo size nf fu (before ++ [c]) r c
def call0 : SCall := ⟨[], -1, -1, 0, 0⟩
def fst (a b : Int) : Int := if a ≠ 0 then a else b
def tabNo (t : Tab) : Int :=
  if (!idOk t.id) = true then 1 else if outB t.size 1 4294967296 = true then 2
  else fst (if (200 : Int) < t.fi.q then 4 else filesNo [] t.fi.l) (fst (if (1000 : Int) < t.fu.q then 4 else funcsNo t.size t.fu.l 0)
    (fst (if (5000 : Int) < t.ro.q then 4 else rowsNo t.size t.fi.q t.ro.l (-1)) (if (1000 : Int) < t.ca.q then 4 else callsNo t.size t.fi.q t.fu.l [] t.ca.l call0)))
def modsNo : List SMod → Int → Int
  | [], _ => 0
  | m :: r, last => if m.name = [] then 1 else if wordsNo m.name [102] [] ≠ 0 then wordsNo m.name [102] [] else if m.name.contains 33 = true then 9 else if (!idOk m.id) = true then 1
    else if (outB m.fr 0 281474976710655 || outB m.tu (m.fr + 1) 281474976710656) = true then 2 else if m.fr < last then 5 else modsNo r m.tu

/-! ### The reference looks at the calls before another way -/
theorem fst_a {a b c : Int} (h : a = c) (hc : c ≠ 0) : fst a b = c := by rw [fst, h, if_pos hc]
theorem fst_b {a b c : Int} (h : a = 0) (hb : b = c) : fst a b = c := by rw [fst, h, hb]; rfl

theorem frmNo_file (s : List UInt8) : frmNo ⟨[], [102], s, 0, -1, false⟩ = wordsNo [] [102] s := by
  unfold frmNo
  by_cases h : wordsNo [] [102] s = 0 <;> simp [h]
theorem frmNo_mod (s : List UInt8) : frmNo ⟨s, [102], [], 0, -1, false⟩ = wordsNo s [102] [] := by
  unfold frmNo
  by_cases h : wordsNo s [102] [] = 0 <;> simp [h]
/-! ### A step of each list -/
end Go.Proofs.YtgbldojgbpgjbaaGreatDoor.Sy
end
section
namespace Go.Proofs.YtgbldojgbpgjbaaGreatDoor.Sy
set_option linter.unusedSimpArgs false
set_option linter.unusedVariables false
set_option maxRecDepth 20000
open Go.RowKit Go.Eng
theorem outsideB_any (n lo hi : Int) (w : World) :
    Calls Tryz.prog 154 #[.int .i64 n, .int .i64 lo, .int .i64 hi] w fun e w' => e = .returned (.bool (outB n lo hi)) ∧ Below w.heap.size w w' := outside_any n lo hi w
theorem mget_set (s : List UInt8) : ∀ l : List (List UInt8), (mget (l.map fun s => (s, Value.bool true)) s).getD (.bool false) = .bool (decide (s ∈ l))
  | [] => rfl
  | a :: r => by
    simp only [List.map_cons, mget]
    by_cases h : s = a
    · simp [h]
    · rw [if_neg h, mget_set s r]; simp [h]
theorem mput_set (s : List UInt8) : ∀ l : List (List UInt8), s ∉ l → mput (l.map fun s => (s, Value.bool true)) s (.bool true) = (l ++ [s]).map fun s => (s, Value.bool true)
  | [], _ => rfl
  | a :: r, h => by
    simp only [List.mem_cons, not_or] at h
    simp only [List.map_cons, mput, List.cons_append, if_neg h.1, mput_set s r h.2]
theorem take_succ_at {α : Type} {l : List α} {i : Nat} {x : α} (h : l[i]? = some x) : l.take (i + 1) = l.take i ++ [x] := by
  rw [List.take_add_one, h]; rfl
theorem mem_at {α : Type} {l : List α} {i : Nat} {x : α} (h : l[i]? = some x) : x ∈ l := List.mem_of_getElem? h

theorem checkFiles_any (s : Sl (List UInt8)) (w : World) (hs : s.Ok strEnc 1 w) (hq : s.q ≤ 4611686018427387904) (hn : ∀ x ∈ s.l, x.length ≤ 4611686018427387904) :
    Calls Tryz.prog 155 #[.slice s.A s.q s.c] w fun e w' => e = .returned (.int .i64 (if (200 : Int) < s.q then 4 else filesNo [] s.l)) ∧ Below w.heap.size w w' := by
  have ht := hs.t
  refine enter_args (args := [.slice s.A s.q s.c]) (F := _) Tryz.func155 rfl Tryz.ntmps155 rfl rfl ?_
  intro Rb hRb hRn
  refine tx ?_
  refine sr 1 ?_
  refine sgs ?_
  refine tx ?_
  refine sr 1 ?_
  refine s1 (y_len_slice rfl rfl Tryz.underlying53) ?_
  refine sr 1 ?_
  refine sgo ?_
  refine T_cond rfl ?_ ?_ <;> intro h9
  · try simp only [nrm] at h9
    refine tx ?_
    refine sr 1 ?_
    refine sgo ?_
    refine tr1 hRb fun w hM => ?_
    exact ⟨by rw [if_pos (by omega)], hM.below⟩
  try simp only [nrm] at h9
  refine kgx ?_
  refine S_makeMap 10 10 (fun l : List UInt8 => str l) rfl rfl rfl rfl ?_
  intro b10
  refine sr 1 ?_
  refine sgs ?_
  refine tx ?_
  refine sr 1 ?_
  refine s1 (y_len_slice rfl rfl Tryz.underlying53) ?_
  refine sr 1 ?_
  refine sgo ?_
  refine T_block ?_
  refine lK1 (kf := [(2, 2), (5, 6), (13, 30)]) (kl := [(2, 2), (5, 6), (10, 10), (13, 30)]) (fun (i : Nat) => [(13, true, .int .i64 (i : Int))]) (fun (i : Nat) => [(10, .blk b10 (IsMap (fun l : List UInt8 => str l) ((s.l.take i).map fun s => (s, Value.bool true))))]) (fun (i : Nat) => i ≤ s.q ∧ filesNo [] s.l = filesNo (s.l.take i) (s.l.drop i)) (fun (i : Nat) => s.q - i) 0 ?_ ?_ ?_ ?_
  · exact ⟨by omega, rfl⟩
  · exact ⟨rfl, trivial⟩
  · exact ⟨rfl, trivial⟩
  rintro i ⟨hp1, hp2⟩
  refine tx ?_
  refine sr 1 ?_
  refine sgs ?_
  refine T_cond rfl ?_ ?_ <;> intro h14
  · try simp only [nrm] at h14
    obtain ⟨x, hx1, hx2⟩ := ht.at (i := i) (by omega)
    have hn1 := hn x (mem_at hx1)
    refine kgs ?_
    refine T_block ?_
    refine tx ?_
    refine s1 (y_indexAddr rfl rfl rfl Tryz.underlying53 sz9 (fun hg => ht.isSome (by omega)) (fun _ => by omega)) ?_
    refine s1 (y_loadT1 (val := (fun l : List UInt8 => str l)) rfl rfl ht (fun _ => hx1) Tryz.underlying9 rfl) ?_
    refine sr 1 ?_
    refine sgs ?_
    refine tx ?_
    refine sr 1 ?_
    refine s1 (y_bin rfl rfl rfl (fun _ => b_eqls)) ?_
    refine sgo ?_
    refine T_cond rfl ?_ ?_ <;> intro h18
    · try simp only [nrm] at h18
      refine tx ?_
      refine sr 1 ?_
      refine sgo ?_
      refine tr1 hRb fun w hM => ?_
      exact ⟨by rw [if_neg (by omega), hp2, hx2, filesNo, if_pos h18], hM.below⟩
    try simp only [nrm] at h18
    refine kgs ?_
    refine tx ?_
    refine sr 1 ?_
    refine s1 (y_build (zv := .agg #[.string ⟨#[]⟩, .string ⟨#[]⟩, .string ⟨#[]⟩, .int .i64 0, .int .i64 0, .bool false]) (pl := [(0, 1), (1, 1), (2, 1), (3, 1), (4, 1), (5, 1)]) (out := [.string ⟨#[]⟩, _, _, .int .i64 0, _, .bool false]) rfl rfl Tryz.underlying45 z45 (by kernel_rfl) rfl) ?_
    refine s1 (y_as (v' := .int .i64 (wordsNo [] [102] x)) (by rw [← frmNo_file x]) (y_call rfl rfl rfl cf152 (fun _ w _ => CheckFrame_any ⟨_, _, _, _, _, _⟩ (by first | omega | (simp; done) | (simp; omega) | (simp only; omega)) (by first | omega | (simp; done) | (simp; omega) | (simp only; omega)) (by first | omega | (simp; done) | (simp; omega) | (simp only; omega)) w))) ?_
    refine sr 1 ?_
    refine sgx ?_
    refine sr 2 ?_
    refine sgo ?_
    refine T_cond rfl ?_ ?_ <;> intro h23
    · try simp only [nrm] at h23
      refine tx ?_
      refine sr 2 ?_
      refine sgo ?_
      refine tr1 hRb fun w hM => ?_
      exact ⟨by rw [if_neg (by omega), hp2, hx2, filesNo, if_neg h18, if_pos h23], hM.below⟩
    try simp only [nrm] at h23
    refine kgs ?_
    refine tx ?_
    refine sr 2 ?_
    refine s1 (y_as (v' := .bool (decide (x ∈ s.l.take i))) (by exact mget_set x _) (y_lookup 10 (enc := fun l : List UInt8 => str l) rfl rfl rfl rfl Tryz.underlying114 Tryz.underlying9 rfl same_str z4)) ?_
    refine sgo ?_
    refine T_cond rfl ?_ ?_ <;> intro h27
    · try simp only [nrm] at h27
      refine tx ?_
      refine sr 1 ?_
      refine sgo ?_
      refine tr1 hRb fun w hM => ?_
      exact ⟨by rw [if_neg (by omega), hp2, hx2, filesNo, if_neg h18, if_neg (by simpa using h23), if_pos h27], hM.below⟩
    try simp only [nrm] at h27
    refine kgr ?_
    refine sr 2 ?_
    refine S_mapUpdate 10 (enc := fun l : List UInt8 => str l) rfl rfl rfl rfl rfl rfl rfl Tryz.underlying114 Tryz.underlying9 rfl same_str fits_str (mput_set x _ h27) ?_
    refine sgr ?_
    refine s1 (y_bin rfl rfl rfl (fun hg => b_add (by omega))) ?_
    refine sr 1 ?_
    refine S_nil (nK1 (kf := [(2, 2), (5, 6), (13, 30)]) (kl := [(2, 2), (5, 6), (10, 10), (13, 30)]) (i + 1) ?_ ?_ ?_ ?_)
    · omega
    · exact ⟨by omega, by rw [hp2, hx2, filesNo, if_neg h18, if_neg (by simpa using h23), if_neg h27, take_succ_at hx1]⟩
    · exact ⟨rfl, trivial⟩
    · exact ⟨by rw [take_succ_at hx1]; rfl, trivial⟩
  try simp only [nrm] at h14
  refine egx ?_
  refine sr 1 ?_
  refine sgo ?_
  refine tr1 hRb fun w hM => ?_
  exact ⟨by rw [if_neg (by omega), hp2, ht.end (by omega)]; rfl, hM.below⟩
theorem checkFuncs_any (t : Tab) (w : World) (hok : t.Ok w) (hz : 1 ≤ t.size ∧ t.size ≤ 4294967296) :
    Calls Tryz.prog 156 #[.agg #[str t.id, .int .i64 t.size, .slice t.fi.A t.fi.q t.fi.c, .slice t.fu.A t.fu.q t.fu.c, .slice t.ro.A t.ro.q t.ro.c, .slice t.ca.A t.ca.q t.ca.c]] w fun e w' => e = .returned (.int .i64 (if (1000 : Int) < t.fu.q then 4 else funcsNo t.size t.fu.l 0)) ∧ Below w.heap.size w w' := by
  have ht := hok.fu.t
  have hq := hok.small
  refine enter_args (args := [.agg #[str t.id, .int .i64 t.size, .slice t.fi.A t.fi.q t.fi.c, .slice t.fu.A t.fu.q t.fu.c, .slice t.ro.A t.ro.q t.ro.c, .slice t.ca.A t.ca.q t.ca.c]]) (F := _) Tryz.func156 rfl Tryz.ntmps156 rfl rfl ?_
  intro Rb hRb hRn
  refine tx ?_
  refine S_box 1 1 rfl rfl rfl rfl rfl ?_
  intro b1
  refine sr 1 ?_
  refine sgs ?_
  refine tx ?_
  refine s1 (yF fa119_3) ?_
  refine s1 (yL 1 Tryz.underlying115) ?_
  refine s1 (y_len_slice rfl rfl Tryz.underlying115) ?_
  refine sr 1 ?_
  refine sgo ?_
  refine T_cond rfl ?_ ?_ <;> intro h10
  · try simp only [nrm] at h10
    refine tx ?_
    refine sr 1 ?_
    refine sgo ?_
    refine tr1 hRb fun w hM => ?_
    exact ⟨by rw [if_pos (by omega)], hM.below⟩
  try simp only [nrm] at h10
  refine kgx ?_
  refine sr 1 ?_
  refine sgs ?_
  refine tx ?_
  refine s1 (yF fa119_3) ?_
  refine s1 (yL 1 Tryz.underlying115) ?_
  refine s1 (y_len_slice rfl rfl Tryz.underlying115) ?_
  refine sr 1 ?_
  refine sgo ?_
  refine T_block ?_
  refine lK2 (kf := [(2, 3), (5, 6), (14, 46)]) (kl := [(2, 3), (5, 6), (14, 46)]) (fun (i : Nat) (last : Int) => [(14, true, .int .i64 (i : Int)), (3, true, .int .i64 last)]) (fun (i : Nat) (last : Int) => []) (fun (i : Nat) (last : Int) => i ≤ t.fu.q ∧ funcsNo t.size t.fu.l 0 = funcsNo t.size (t.fu.l.drop i) last) (fun (i : Nat) (last : Int) => t.fu.q - i) 0 0 ?_ ?_ ?_ ?_
  · exact ⟨by omega, rfl⟩
  · exact ⟨rfl, rfl, trivial⟩
  · exact trivial
  rintro i last ⟨hp1, hp2⟩
  refine tx ?_
  refine sr 1 ?_
  refine sgs ?_
  refine T_cond rfl ?_ ?_ <;> intro h15
  · try simp only [nrm] at h15
    obtain ⟨f, hx1, hx2⟩ := ht.at (i := i) (by omega)
    have hn1 := hok.names.2.1 f (mem_at hx1)
    refine kgs ?_
    refine T_block ?_
    refine tx ?_
    refine s1 (y_indexAddr rfl rfl rfl Tryz.underlying115 sz193 (fun hg => ht.isSome (by omega)) (fun _ => by omega)) ?_
    refine s1 (y_loadT rfl rfl ht (fun _ => rfl) (fun _ => hx1) Tryz.underlying193 rfl sz193) ?_
    refine S_alloc 5 5 rfl rfl rfl rfl z193 ?_
    intro b5
    refine S_store 5 rfl rfl rfl rfl rfl rfl sz193 rfl rfl ?_
    refine sgs ?_
    refine tx ?_
    refine s1 (yF fa193_0) ?_
    refine s1 (yL 5 Tryz.underlying9) ?_
    refine s1 (y_call rfl rfl rfl cf212 (fun _ w _ => checkName_any _ (by omega) w)) ?_
    refine sr 1 ?_
    refine sgx ?_
    refine sr 2 ?_
    refine sgo ?_
    refine T_cond rfl ?_ ?_ <;> intro h22
    · try simp only [nrm] at h22
      refine tx ?_
      refine sr 2 ?_
      refine sgo ?_
      refine tr1 hRb fun w hM => ?_
      exact ⟨by rw [if_neg (by omega), hp2, hx2, funcsNo, if_pos h22], hM.below⟩
    try simp only [nrm] at h22
    refine kgs ?_
    refine tx ?_
    refine s1 (yF fa193_1) ?_
    refine s1 (yL 5 Tryz.underlying3) ?_
    refine s1 (yF fa119_1) ?_
    refine s1 (yL 1 Tryz.underlying3) ?_
    refine s1 (y_bin rfl rfl rfl (fun hg => b_sub (by omega))) ?_
    refine s1 (y_call rfl rfl rfl cf154 (fun _ w _ => outsideB_any _ _ _ w)) ?_
    refine sr 1 ?_
    refine sg rfl (yF fa193_2) ?_
    refine sg rfl (yL 5 Tryz.underlying3) ?_
    refine sg rfl (yF fa193_1) ?_
    refine sg rfl (yL 5 Tryz.underlying3) ?_
    refine sg rfl (y_bin rfl rfl rfl (fun hg => b_add (by simp only [outB, spanBad, Bool.true_and, Bool.and_eq_true, beq_iff_eq, Bool.or_eq_false_iff, Bool.or_eq_true, decide_eq_false_iff_not, decide_eq_true_eq, Int.not_lt] at hg; omega))) ?_
    refine sg rfl (yF fa119_1) ?_
    refine sg rfl (yL 1 Tryz.underlying3) ?_
    refine sg rfl (y_call rfl rfl rfl cf154 (fun _ w _ => outsideB_any _ _ _ w)) ?_
    refine s1 (y_as (v' := .bool (spanBad t.size f.fr f.tu)) (by exact rfl) (y_or rfl rfl rfl)) ?_
    refine sgo ?_
    refine T_cond rfl ?_ ?_ <;> intro h39
    · skip
      refine tx ?_
      refine sr 1 ?_
      refine sgo ?_
      refine tr1 hRb fun w hM => ?_
      exact ⟨by rw [if_neg (by omega), hp2, hx2, funcsNo, if_neg (by simpa using h22), if_t h39], hM.below⟩
    refine kgs ?_
    refine tx ?_
    refine s1 (yF fa193_1) ?_
    refine s1 (yL 5 Tryz.underlying3) ?_
    refine sr 2 ?_
    refine sgo ?_
    refine T_cond rfl ?_ ?_ <;> intro h43
    · try simp only [nrm] at h43
      refine tx ?_
      refine sr 1 ?_
      refine sgo ?_
      refine tr1 hRb fun w hM => ?_
      exact ⟨by rw [if_neg (by omega), hp2, hx2, funcsNo, if_neg (by simpa using h22), if_f h39, if_pos (by omega)], hM.below⟩
    try simp only [nrm] at h43
    refine kgr ?_
    refine s1 (yF fa193_2) ?_
    refine s1 (yL 5 Tryz.underlying3) ?_
    refine sr 1 ?_
    refine sgr ?_
    refine s1 (y_bin rfl rfl rfl (fun hg => b_add (by omega))) ?_
    refine sr 1 ?_
    refine S_nil (nK2 (kf := [(2, 3), (5, 6), (14, 46)]) (kl := [(2, 3), (5, 6), (14, 46)]) (i + 1) f.tu ?_ ?_ ?_ ?_)
    · omega
    · exact ⟨by omega, by rw [hp2, hx2, funcsNo, if_neg (by simpa using h22), if_f h39, if_neg (by omega)]⟩
    · exact ⟨rfl, rfl, trivial⟩
    · exact trivial
  try simp only [nrm] at h15
  refine egx ?_
  refine sr 1 ?_
  refine sgo ?_
  refine tr1 hRb fun w hM => ?_
  exact ⟨by rw [if_neg (by omega), hp2, ht.end (by omega)]; rfl, hM.below⟩
def row0 : SRow := ⟨-1, 0, 0⟩
theorem pos_of_row {size nf : Int} {r : SRow} (h : rowBad size nf r = false) : 0 ≤ r.pos := by
  simp only [rowBad, outB, Bool.or_eq_false_iff, decide_eq_false_iff_not] at h; omega
theorem rows_f {i : Nat} {p b : Int} (h : (decide (0 < (i : Int)) && decide (p ≤ b)) = false) (h0 : i = 0 → b = -1) : p < 0 ∨ b < p := by
  simp only [Bool.and_eq_false_iff, decide_eq_false_iff_not] at h
  by_cases hi : i = 0
  · have := h0 hi; omega
  · omega
theorem rows_t {i : Nat} {p b : Int} (h : (decide (0 < (i : Int)) && decide (p ≤ b)) = true) : p ≤ b := by
  simp only [Bool.and_eq_true, decide_eq_true_eq] at h; omega
theorem checkRows_any (t : Tab) (w : World) (hok : t.Ok w) (hz : 1 ≤ t.size ∧ t.size ≤ 4294967296) :
    Calls Tryz.prog 157 #[.agg #[str t.id, .int .i64 t.size, .slice t.fi.A t.fi.q t.fi.c, .slice t.fu.A t.fu.q t.fu.c, .slice t.ro.A t.ro.q t.ro.c, .slice t.ca.A t.ca.q t.ca.c]] w fun e w' => e = .returned (.int .i64 (if (5000 : Int) < t.ro.q then 4 else rowsNo t.size t.fi.q t.ro.l (-1))) ∧ Below w.heap.size w w' := by
  have ht := hok.ro.t
  have hq := hok.small
  refine enter_args (args := [.agg #[str t.id, .int .i64 t.size, .slice t.fi.A t.fi.q t.fi.c, .slice t.fu.A t.fu.q t.fu.c, .slice t.ro.A t.ro.q t.ro.c, .slice t.ca.A t.ca.q t.ca.c]]) (F := _) Tryz.func157 rfl Tryz.ntmps157 rfl rfl ?_
  intro Rb hRb hRn
  refine tx ?_
  refine S_box 1 1 rfl rfl rfl rfl rfl ?_
  intro b1
  refine sr 1 ?_
  refine sgs ?_
  refine tx ?_
  refine s1 (yF fa119_4) ?_
  refine s1 (yL 1 Tryz.underlying116) ?_
  refine s1 (y_len_slice rfl rfl Tryz.underlying116) ?_
  refine sr 1 ?_
  refine sgo ?_
  refine T_cond rfl ?_ ?_ <;> intro h8
  · try simp only [nrm] at h8
    refine tx ?_
    refine sr 1 ?_
    refine sgo ?_
    refine tr1 hRb fun w hM => ?_
    exact ⟨by rw [if_pos (by omega)], hM.below⟩
  try simp only [nrm] at h8
  refine kgs ?_
  refine tx ?_
  refine s1 (yF fa119_4) ?_
  refine s1 (yL 1 Tryz.underlying116) ?_
  refine s1 (y_len_slice rfl rfl Tryz.underlying116) ?_
  refine sr 1 ?_
  refine sgo ?_
  refine T_block ?_
  refine lK2 (kf := [(2, 4), (12, 61)]) (kl := [(2, 4), (12, 61)]) (fun (i : Nat) (b : SRow) => [(12, true, .int .i64 (i : Int))]) (fun (i : Nat) (b : SRow) => []) (fun (i : Nat) (b : SRow) => i ≤ t.ro.q ∧ rowsNo t.size t.fi.q t.ro.l (-1) = rowsNo t.size t.fi.q (t.ro.l.drop i) b.pos ∧ (0 < i → t.ro.l[i - 1]? = some b) ∧ (i = 0 → b.pos = -1)) (fun (i : Nat) (b : SRow) => t.ro.q - i) 0 row0 ?_ ?_ ?_ ?_
  · exact ⟨by omega, rfl, by omega, fun _ => rfl⟩
  · exact ⟨rfl, trivial⟩
  · exact trivial
  rintro i b ⟨hp1, hp2, hp3, hp4⟩
  refine tx ?_
  refine sr 1 ?_
  refine sgs ?_
  refine T_cond rfl ?_ ?_ <;> intro h13
  · try simp only [nrm] at h13
    obtain ⟨r, hx1, hx2⟩ := ht.at (i := i) (by omega)
    refine kgs ?_
    refine T_block ?_
    refine tx ?_
    refine sr 1 ?_
    refine s1 (y_indexAddr rfl rfl rfl Tryz.underlying116 sz242 (fun hg => ht.isSome (by omega)) (fun _ => by omega)) ?_
    refine s1 (y_loadT rfl rfl ht (fun _ => rfl) (fun _ => hx1) Tryz.underlying242 rfl sz242) ?_
    refine S_alloc 4 4 rfl rfl rfl rfl z242 ?_
    intro b4
    refine sr 1 ?_
    refine S_store 4 rfl rfl rfl rfl rfl rfl sz242 rfl rfl ?_
    refine sgo ?_
    refine T_block ?_
    refine tx ?_
    refine s1 (yF fa242_0) ?_
    refine s1 (yL 4 Tryz.underlying3) ?_
    refine s1 (yF fa119_1) ?_
    refine s1 (yL 1 Tryz.underlying3) ?_
    refine s1 (y_bin rfl rfl rfl (fun hg => b_sub (by omega))) ?_
    refine s1 (y_call rfl rfl rfl cf154 (fun _ w _ => outsideB_any _ _ _ w)) ?_
    refine sr 1 ?_
    refine sg rfl (yF fa242_1) ?_
    refine sg rfl (yL 4 Tryz.underlying3) ?_
    refine sg rfl (yF fa119_2) ?_
    refine sg rfl (yL 1 Tryz.underlying53) ?_
    refine sg rfl (y_len_slice rfl rfl Tryz.underlying53) ?_
    refine sg rfl (y_bin rfl rfl rfl (fun hg => b_sub (by omega))) ?_
    refine sg rfl (y_call rfl rfl rfl cf154 (fun _ w _ => outsideB_any _ _ _ w)) ?_
    refine s1 (y_or rfl rfl rfl) ?_
    refine sr 1 ?_
    refine sg rfl (yF fa242_2) ?_
    refine sg rfl (yL 4 Tryz.underlying3) ?_
    refine sg rfl (y_call rfl rfl rfl cf154 (fun _ w _ => outsideB_any _ _ _ w)) ?_
    refine s1 (y_as (v' := .bool (rowBad t.size t.fi.q r)) (by exact rfl) (y_or rfl rfl rfl)) ?_
    refine sr 1 ?_
    refine sgo ?_
    refine T_cond rfl ?_ ?_ <;> intro h17
    · skip
      refine tx ?_
      refine sr 1 ?_
      refine sgo ?_
      refine tr1 hRb fun w hM => ?_
      exact ⟨by rw [if_neg (by omega), hp2, hx2, rowsNo, if_t h17], hM.below⟩
    have hpos := pos_of_row h17
    refine tx ?_
    refine s1 (yF fa242_1) ?_
    refine s1 (yL 4 Tryz.underlying3) ?_
    refine sr 1 ?_
    refine s1 (yF fa242_2) ?_
    refine s1 (yL 4 Tryz.underlying3) ?_
    refine sr 1 ?_
    refine s1 (y_bin rfl rfl rfl (fun _ => b_neqb Tryz.underlying4)) ?_
    refine sr 1 ?_
    refine sgo ?_
    refine T_cond rfl ?_ ?_ <;> intro h38
    · skip
      refine tx ?_
      refine sr 1 ?_
      refine sgo ?_
      refine tr1 hRb fun w hM => ?_
      exact ⟨by rw [if_neg (by omega), hp2, hx2, rowsNo, if_f h17, if_t h38], hM.below⟩
    refine T_seq ?_
    refine T_draws (by kernel_rfl) (by kernel_rfl) ?_
    refine d1 (y_move rfl rfl) ?_
    refine d1 (y_bin rfl rfl rfl (fun _ => b_gtr)) ?_
    refine d1 (y_move rfl rfl) ?_
    refine dg rfl (yF fa242_0) ?_
    refine dg rfl (yL 4 Tryz.underlying3) ?_
    refine dg rfl (yF fa119_4) ?_
    refine dg rfl (yL 1 Tryz.underlying116) ?_
    refine dg rfl (y_move rfl rfl) ?_
    refine dg rfl (y_bin rfl rfl rfl (fun hg => b_subv (((i - 1 : Nat) : Int)) (by simp only [Bool.true_and, Bool.and_eq_true, beq_iff_eq, decide_eq_true_eq, decide_eq_false_iff_not, Int.not_lt, Int.not_le] at hg; omega) (by simp only [Bool.true_and, Bool.and_eq_true, beq_iff_eq, decide_eq_true_eq, decide_eq_false_iff_not, Int.not_lt, Int.not_le] at hg; omega))) ?_
    refine dg rfl (y_indexAddr rfl rfl rfl Tryz.underlying116 sz242 (fun hg => ht.isSome (by simp only [Bool.true_and, Bool.and_eq_true, beq_iff_eq, decide_eq_true_eq, decide_eq_false_iff_not, Int.not_lt, Int.not_le] at hg; omega)) (fun hg => by simp only [Bool.true_and, Bool.and_eq_true, beq_iff_eq, decide_eq_true_eq, decide_eq_false_iff_not, Int.not_lt, Int.not_le] at hg; omega)) ?_
    refine dg rfl (y_fieldEl rfl rfl ht.rd (fun hg => by simp only [Bool.true_and, Bool.and_eq_true, beq_iff_eq, decide_eq_true_eq, decide_eq_false_iff_not, Int.not_lt, Int.not_le] at hg; omega) fa242_0) ?_
    refine dg rfl (y_load_fT rfl rfl ht (fun _ => rfl) (fun hg => hp3 (by simp only [Bool.true_and, Bool.and_eq_true, beq_iff_eq, decide_eq_true_eq, decide_eq_false_iff_not, Int.not_lt, Int.not_le] at hg; omega)) rfl Tryz.underlying3 rfl) ?_
    refine dg rfl (y_bin rfl rfl rfl (fun _ => b_leq)) ?_
    refine d1 (y_and rfl rfl rfl) ?_
    refine d1 (y_assign rfl rfl) ?_
    refine dgo ?_
    refine T_cond rfl ?_ ?_ <;> intro h46
    · skip
      refine tx ?_
      refine sr 1 ?_
      refine sgo ?_
      refine tr1 hRb fun w hM => ?_
      exact ⟨by rw [if_neg (by omega), hp2, hx2, rowsNo, if_f h17, if_f h38, if_pos (by have := rows_t h46; omega)], hM.below⟩
    refine kgr ?_
    refine s1 (y_bin rfl rfl rfl (fun hg => b_add (by omega))) ?_
    refine sr 1 ?_
    refine S_nil (nK2 (kf := [(2, 4), (12, 61)]) (kl := [(2, 4), (12, 61)]) (i + 1) r ?_ ?_ ?_ ?_)
    · omega
    · exact ⟨by omega, by rw [hp2, hx2, rowsNo, if_f h17, if_f h38, if_neg (by have := rows_f h46 hp4; omega)], fun _ => hx1, by omega⟩
    · exact ⟨rfl, trivial⟩
    · exact trivial
  try simp only [nrm] at h13
  refine egx ?_
  refine sr 1 ?_
  refine sgo ?_
  refine tr1 hRb fun w hM => ?_
  exact ⟨by rw [if_neg (by omega), hp2, ht.end (by omega)]; rfl, hM.below⟩
end Go.Proofs.YtgbldojgbpgjbaaGreatDoor.Sy
end
section
namespace Go.Proofs.YtgbldojgbpgjbaaGreatDoor.Sy
set_option linter.unusedSimpArgs false
set_option linter.unusedVariables false
set_option maxRecDepth 20000
open Go.RowKit Go.Eng
structure FrmsOk (w : World) (l : Sl Frm) : Prop where
  ok : l.Ok Frm.enc 6 w
  q : l.q ≤ 4611686018427387904
  n : ∀ f ∈ l.l, f.m.length ≤ 4611686018427387904 ∧ f.f.length ≤ 4611686018427387904 ∧ f.fi.length ≤ 4611686018427387904
theorem FrmsOk.below {w w' : World} {l : Sl Frm} (h : FrmsOk w l) (hb : Below w.heap.size w w') : FrmsOk w' l := ⟨h.ok.below hb, h.q, h.n⟩
def frmsNo : List Frm → Int
  | [] => 0
  | f :: r => if frmNo f ≠ 0 then frmNo f else frmsNo r
def framesNo (l : Sl Frm) : Int := if (200 : Int) < l.q then 4 else frmsNo l.l
theorem checkFrames_any (l : Sl Frm) (w : World) (hl : FrmsOk w l) :
    Calls Tryz.prog 149 #[.slice l.A l.q l.c] w fun e w' => e = .returned (.int .i64 (framesNo l)) ∧ Below w.heap.size w w' := by
  have ht := hl.ok.t
  have hq := hl.q
  refine enter_args (args := [.slice l.A l.q l.c]) (F := _) Tryz.func149 rfl Tryz.ntmps149 rfl rfl ?_
  intro Rb hRb hRn
  refine tx ?_
  refine sr 1 ?_
  refine sgs ?_
  refine tx ?_
  refine sr 1 ?_
  refine s1 (y_len_slice rfl rfl Tryz.underlying32) ?_
  refine sr 1 ?_
  refine sgo ?_
  refine T_cond rfl ?_ ?_ <;> intro h8
  · try simp only [nrm] at h8
    refine tx ?_
    refine sr 1 ?_
    refine sgo ?_
    refine tr1 hRb fun w hM => ?_
    exact ⟨by rw [framesNo, if_pos (by omega)], hM.below⟩
  try simp only [nrm] at h8
  refine kgs ?_
  refine tx ?_
  refine sr 1 ?_
  refine s1 (y_len_slice rfl rfl Tryz.underlying32) ?_
  refine sr 1 ?_
  refine sgo ?_
  refine T_block ?_
  refine lK1 (kf := [(2, 2), (4, 5), (11, 20)]) (kl := [(2, 2), (4, 5), (11, 20)]) (fun (i : Nat) => [(11, true, .int .i64 (i : Int))]) (fun (i : Nat) => []) (fun (i : Nat) => i ≤ l.q ∧ frmsNo l.l = frmsNo (l.l.drop i)) (fun (i : Nat) => l.q - i) 0 ?_ ?_ ?_ ?_
  · exact ⟨by omega, rfl⟩
  · exact ⟨rfl, trivial⟩
  · exact trivial
  rintro i ⟨hp1, hp2⟩
  refine tx ?_
  refine sr 1 ?_
  refine sgs ?_
  refine T_cond rfl ?_ ?_ <;> intro h12
  · try simp only [nrm] at h12
    obtain ⟨x, hx1, hx2⟩ := ht.at (i := i) (by omega)
    have hn := hl.n x (mem_at hx1)
    refine kgs ?_
    refine T_block ?_
    refine tx ?_
    refine s1 (y_indexAddr rfl rfl rfl Tryz.underlying32 sz45 (fun hg => ht.isSome (by omega)) (fun _ => by omega)) ?_
    refine s1 (y_loadT rfl rfl ht (fun _ => rfl) (fun _ => hx1) Tryz.underlying45 rfl sz45) ?_
    refine S_alloc 4 4 rfl rfl rfl rfl z45 ?_
    intro b4
    refine S_store 4 rfl rfl rfl rfl rfl rfl sz45 rfl rfl ?_
    refine sgx ?_
    refine s1 (yA 4 rfl Tryz.underlying45 sz45) ?_
    refine s1 (y_call rfl rfl rfl cf152 (fun _ w _ => CheckFrame_any x hn.1 hn.2.1 hn.2.2 w)) ?_
    refine sr 1 ?_
    refine sgx ?_
    refine sr 2 ?_
    refine sgo ?_
    refine T_cond rfl ?_ ?_ <;> intro h18
    · try simp only [nrm] at h18
      refine tx ?_
      refine sr 2 ?_
      refine sgo ?_
      refine tr1 hRb fun w hM => ?_
      exact ⟨by rw [framesNo, if_neg (by omega), hp2, hx2, frmsNo, if_pos h18], hM.below⟩
    try simp only [nrm] at h18
    refine kgr ?_
    refine s1 (y_bin rfl rfl rfl (fun hg => b_add (by omega))) ?_
    refine sr 1 ?_
    refine S_nil (nK1 (kf := [(2, 2), (4, 5), (11, 20)]) (kl := [(2, 2), (4, 5), (11, 20)]) (i + 1) ?_ ?_ ?_ ?_)
    · omega
    · exact ⟨by omega, by rw [hp2, hx2, frmsNo, if_neg (by simpa using h18)]⟩
    · exact ⟨rfl, trivial⟩
    · exact trivial
  try simp only [nrm] at h12
  refine egx ?_
  refine sr 1 ?_
  refine sgo ?_
  refine tr1 hRb fun w hM => ?_
  exact ⟨by rw [framesNo, if_neg (by omega), hp2, ht.end (by omega)]; rfl, hM.below⟩
/-- what it copies: elements that are read anew -/
theorem CloneF_any (l : Sl Frm) (w : World) (hl : l.Ok Frm.enc 6 w) (hq : l.q ≤ 1000000000) :
    Calls Tryz.prog 150 #[.slice l.A l.q l.c] w fun e w' => ∃ A c, e = .returned (.slice A l.q c) ∧ w'.ownsRow w.heap.size 45 6 (.slice A l.q c) l.q (l.l.flatMap Frm.enc) ∧ Below w.heap.size w w' := by
  have hlen := hl.t.len
  refine enter_args (args := [.slice l.A l.q l.c]) (F := _) Tryz.func150 rfl Tryz.ntmps150 rfl rfl ?_
  intro Rb hRb hRn
  refine tx ?_
  refine S_nilSlice 2 (e := 45) (size := 6) ?_
  refine sr 1 ?_
  refine sgs ?_
  refine tx ?_
  refine sr 1 ?_
  refine s1 (y_bin rfl rfl rfl (fun _ => b_eqln Tryz.underlying32)) ?_
  refine sgo ?_
  refine T_cond rfl ?_ ?_ <;> intro h4
  · skip
    refine tx ?_
    refine S_nilSlice 2 (e := 45) (size := 6) ?_
    refine sr 1 ?_
    refine sgo ?_
    refine tr1 hRb fun w hM => ?_
    have hA : l.A = none := by cases h : l.A with
      | none => rfl
      | some a => rw [h] at h4; cases h4
    have h0 : l.q = 0 := by
      rcases Nat.eq_zero_or_pos l.q with h | h
      · exact h
      · have := hl.t.isSome h; rw [hA] at this; cases this
    have hn : l.l = [] := List.eq_nil_of_length_eq_zero (by omega)
    rw [h0, hn]
    exact ⟨none, 0, rfl, World.ownsRow_nil _ _ _ _, hM.below⟩
  refine kgx ?_
  refine S_buildSlice0 5 5 rfl rfl rfl rfl Tryz.underlying32 sz45 ?_
  intro b5
  refine sr 1 ?_
  obtain ⟨i7, hi7, hz7, hs7, hy7⟩ := info_parts inf45
  refine S_appendG 7 5 (news := l.l.flatMap Frm.enc) rfl rfl rfl rfl rfl rfl rfl (fun w hM => hl.t.rd.below hM.below) Tryz.underlying32 hi7 hz7 hs7 hy7 rfl (by decide) (allOne_of (fun u hu => by obtain ⟨a, _, ha⟩ := List.mem_flatMap.1 hu; simp [Frm.enc] at ha; rcases ha with rfl | rfl | rfl | rfl | rfl | rfl <;> rfl)) ?_ ?_ (l.q) (l.l.flatMap Frm.enc) ?_ ?_ ?_
  · (simp only [maxLen]; omega)
  · omega
  · omega
  · rfl
  intro A7 c7
  refine sr 1 ?_
  refine sgo ?_
  refine tr1 hRb fun w hM => ?_
  exact ⟨A7, c7, rfl, hM.sat 5 _ rfl, hM.below⟩
theorem Cut200_any (l : Sl Frm) (w : World) (hl : FrmsOk w l) :
    Calls Tryz.prog 64 #[.slice l.A l.q l.c, .int .i64 200] w fun e w' => ∃ z : Value, e = .returned (.tuple #[z, .int .i64 0, .int .i64 (framesNo l)]) ∧ Below w.heap.size w w' := by
  have hq := hl.q
  have hno : framesNo l = 0 → l.q ≤ 200 := fun h => by
    unfold framesNo at h
    split at h
    · cases h
    · omega
  refine enter_args (args := [.slice l.A l.q l.c, .int .i64 200]) (F := _) Tryz.func64 rfl Tryz.ntmps64 rfl rfl ?_
  intro Rb hRb hRn
  refine tx ?_
  refine S_nilSlice 4 (e := 45) (size := 6) ?_
  refine sr 3 ?_
  refine sgs ?_
  refine tx ?_
  refine sr 1 ?_
  refine s1 (y_call rfl rfl rfl cf149 (fun _ w hM => checkFrames_any l w (hl.below hM.below))) ?_
  refine sr 1 ?_
  refine sgx ?_
  refine sr 2 ?_
  refine sgo ?_
  refine T_cond rfl ?_ ?_ <;> intro h11
  · try simp only [nrm] at h11
    refine tx ?_
    refine sr 1 ?_
    refine S_nilSlice 4 (e := 45) (size := 6) ?_
    refine sr 3 ?_
    refine sgo ?_
    refine tr3 hRb fun w hM => ?_
    exact ⟨_, by rfl, hM.below⟩
  try simp only [nrm] at h11
  have hq2 := hno h11
  refine kgs ?_
  refine tx ?_
  refine sr 1 ?_
  refine s1 (y_call rfl rfl rfl cf71 (fun _ w _ => soutside_any _ _ _ w)) ?_
  refine sgo ?_
  refine T_cond rfl ?_ ?_ <;> intro h14
  · skip
    simp at h14
  refine kgs ?_
  refine tx ?_
  refine sr 1 ?_
  refine s1 (y_len_slice rfl rfl Tryz.underlying32) ?_
  refine sr 2 ?_
  refine sgo ?_
  refine T_cond rfl ?_ ?_ <;> intro h18
  · try simp only [nrm] at h18
    refine tx ?_
    refine sr 1 ?_
    refine S_callOwn 20 20 rfl rfl rfl rfl rfl rfl rfl cf150 (fun A c => .slice A (l.q) c) 45 6 (l.q) (l.l.flatMap Frm.enc) (fun w hM => CloneF_any l w (hl.ok.below hM.below) (by omega)) ?_
    intro A20 c20
    refine sr 3 ?_
    refine sgo ?_
    refine tr3 hRb fun w hM => ?_
    exact ⟨_, by rw [h11], hM.below⟩
  try simp only [nrm] at h18
  omega
end Go.Proofs.YtgbldojgbpgjbaaGreatDoor.Sy
end
section
namespace Go.Proofs.YtgbldojgbpgjbaaGreatDoor.Sy
set_option linter.unusedSimpArgs false
set_option linter.unusedVariables false
set_option maxRecDepth 20000
open Go.RowKit Go.Eng
theorem ContainsFuncF_any (A : Option Addr) (q c : Nat) (l : List SFunc) (g : FuncId) (cap : Array Value) (p : SFunc → Bool) (w : World) (hl : SlT SFunc.enc 3 w A q l) (hq : q ≤ 4611686018427387904) (hA : Asks Tryz.prog SFunc.enc w g cap p) :
    Calls Tryz.prog 261 #[.slice A q c, .func (.func g) #[] cap] w fun e w' => e = .returned (.bool (l.any p)) ∧ Below w.heap.size w w' := by
  rw [← findI_any p l 0 (by omega)]
  refine enter_args (args := [.slice A q c, .func (.func g) #[] cap]) (F := _) Tryz.func261 rfl Tryz.ntmps261 rfl rfl ?_
  intro Rb hRb hRn
  refine tx ?_
  refine sr 1 ?_
  refine sgx ?_
  refine sr 2 ?_
  refine s1 (y_call rfl rfl rfl cf214 (fun _ w hM => IndexFuncF_any _ _ _ _ _ _ p w (hl.below hM.below) hq ⟨hA.1, fun x w' hb => hA.2 x w' (hM.below.trans (hb.mono hM.below.size))⟩)) ?_
  refine sr 2 ?_
  refine sgo ?_
  refine tr1 hRb fun w hM => ?_
  exact ⟨rfl, hM.below⟩
theorem checkCall1_any (f : SFunc) (ad : Addr) (c : SCall) (w : World) (hb : ad.block < w.heap.size) (h1 : w.cell? (ad.add 1) = some (.int .i64 c.fr)) (h2 : w.cell? (ad.add 2) = some (.int .i64 c.tu)) :
    Calls Tryz.prog 262 #[.agg f.enc.toArray, .pointer (some ad)] w fun e w' => e = .returned (.bool (f.holds c)) ∧ Below w.heap.size w w' := by
  refine enter_args (args := [.agg #[str f.name, .int .i64 f.fr, .int .i64 f.tu], .pointer (some ad)]) (F := _) Tryz.func262 rfl Tryz.ntmps262 rfl rfl ?_
  intro Rb hRb hRn
  refine tx ?_
  refine S_box 2 2 rfl rfl rfl rfl rfl ?_
  intro b2
  refine sr 1 ?_
  refine sgx ?_
  refine s1 (yF fa193_1) ?_
  refine s1 (yL 2 Tryz.underlying3) ?_
  refine s1 (yF fa191_1) ?_
  refine s1 (y_load_far rfl rfl h1 (by rw [block_of_add]; exact hb) Tryz.underlying3 rfl) ?_
  refine sr 2 ?_
  refine sg rfl (yF fa191_2) ?_
  refine sg rfl (y_load_far rfl rfl h2 (by rw [block_of_add]; exact hb) Tryz.underlying3 rfl) ?_
  refine sg rfl (yF fa193_2) ?_
  refine sg rfl (yL 2 Tryz.underlying3) ?_
  refine sg rfl (y_bin rfl rfl rfl (fun _ => b_leq)) ?_
  refine s1 (y_and rfl rfl rfl) ?_
  refine sr 1 ?_
  refine sgo ?_
  refine tr1 hRb fun w hM => ?_
  exact ⟨rfl, hM.below⟩
theorem asks_checkCall {b : Nat} {c : SCall} {w : World} (h1 : w.cell? ⟨b, 1, none⟩ = some (.int .i64 c.fr) ∧ b < w.heap.size) (h2 : w.cell? ⟨b, 2, none⟩ = some (.int .i64 c.tu) ∧ b < w.heap.size) : Asks Tryz.prog SFunc.enc w 262 #[.pointer (some ⟨b, 0, none⟩)] (SFunc.holds c) :=
  ⟨cf262, fun f w' hb => checkCall1_any f ⟨b, 0, none⟩ c w' (Nat.lt_of_lt_of_le h1.2 hb.size) ((hb.cell h1.2).trans h1.1) ((hb.cell h1.2).trans h2.1)⟩
theorem checkCall_any (t : Tab) (i : Nat) (c : SCall) (w : World) (hok : t.Ok w) (hi : t.ca.l[i]? = some c) (hiq : i < t.ca.q) :
    Calls Tryz.prog 213 #[.agg #[str t.id, .int .i64 t.size, .slice t.fi.A t.fi.q t.fi.c, .slice t.fu.A t.fu.q t.fu.c, .slice t.ro.A t.ro.q t.ro.c, .slice t.ca.A t.ca.q t.ca.c], .int .i64 i] w fun e w' => e = .returned (.int .i64 (callNo t.fu.l (t.ca.l.take i) c)) ∧ Below w.heap.size w w' := by
  have ht := hok.ca.t
  have hq := hok.small
  have hcap := hok.ca.cap
  have hcut := ht.cut (lo := 0) (hi := i) (fun _ => rfl) (by omega) (by omega) hcap
  have hbe : (t.ca.l.drop 0).take (i - 0) = t.ca.l.take i := by simp
  refine enter_args (args := [.agg #[str t.id, .int .i64 t.size, .slice t.fi.A t.fi.q t.fi.c, .slice t.fu.A t.fu.q t.fu.c, .slice t.ro.A t.ro.q t.ro.c, .slice t.ca.A t.ca.q t.ca.c], .int .i64 i]) (F := _) Tryz.func213 rfl Tryz.ntmps213 rfl rfl ?_
  intro Rb hRb hRn
  refine tx ?_
  refine S_box 2 2 rfl rfl rfl rfl rfl ?_
  intro b2
  refine sr 1 ?_
  refine sgx ?_
  refine s1 (yF fa119_5) ?_
  refine s1 (yL 2 Tryz.underlying117) ?_
  refine sr 1 ?_
  refine s1 (y_indexAddr rfl rfl rfl Tryz.underlying117 sz191 (fun hg => ht.isSome (by omega)) (fun _ => by omega)) ?_
  refine s1 (y_loadT rfl rfl ht (fun _ => rfl) (fun _ => hi) Tryz.underlying191 rfl sz191) ?_
  refine S_alloc 5 5 rfl rfl rfl rfl z191 ?_
  intro b5
  refine S_store 5 rfl rfl rfl rfl rfl rfl sz191 rfl rfl ?_
  refine sgs ?_
  refine tx ?_
  refine s1 (yF fa119_3) ?_
  refine s1 (yL 2 Tryz.underlying115) ?_
  refine s1 (y_makeFunc rfl rfl rfl rfl rfl) ?_
  refine s1 (y_call rfl rfl rfl cf261 (fun _ w hM => ContainsFuncF_any _ _ _ _ _ _ (SFunc.holds c) w (hok.fu.t.below hM.below) (by omega) (asks_checkCall (hM.box_cell (i := 5) rfl rfl) (hM.box_cell (i := 5) rfl rfl)))) ?_
  refine sr 1 ?_
  refine sgo ?_
  refine T_cond rfl ?_ ?_ <;> intro h18
  · skip
    refine tx ?_
    refine sr 1 ?_
    refine sgo ?_
    refine tr1 hRb fun w hM => ?_
    exact ⟨by rw [callNo, if_t h18], hM.below⟩
  refine kgx ?_
  refine sr 1 ?_
  refine sgs ?_
  refine tx ?_
  refine s1 (yF fa119_5) ?_
  refine s1 (yL 2 Tryz.underlying117) ?_
  refine sr 1 ?_
  refine s1 (y_slice rfl rfl Tryz.underlying117 sz191 (.inl ⟨rfl, rfl⟩) (.inr ⟨_, _, rfl, rfl⟩) (by omega) (by omega) hcap) ?_
  refine s1 (y_len_slice rfl rfl Tryz.underlying117) ?_
  refine sr 1 ?_
  refine sgo ?_
  refine T_block ?_
  refine lK2 (kf := [(4, 4), (6, 6), (8, 8), (24, 54)]) (kl := [(4, 4), (6, 6), (8, 8), (24, 54)]) (fun (j : Nat) (deep : Int) => [(24, true, .int .i64 (j : Int)), (6, true, .int .i64 deep)]) (fun (j : Nat) (deep : Int) => []) (fun (j : Nat) (deep : Int) => j ≤ i ∧ nestNo c (t.ca.l.take i) 0 = nestNo c (((t.ca.l.drop 0).take (i - 0)).drop j) deep ∧ 0 ≤ deep ∧ deep ≤ j) (fun (j : Nat) (deep : Int) => i - j) 0 0 ?_ ?_ ?_ ?_
  · exact ⟨by omega, by rw [hbe]; rfl, by omega, by omega⟩
  · exact ⟨rfl, rfl, trivial⟩
  · exact trivial
  rintro j deep ⟨hp1, hp2, hp3, hp4⟩
  refine tx ?_
  refine sr 1 ?_
  refine sgs ?_
  refine T_cond rfl ?_ ?_ <;> intro h25
  · try simp only [nrm] at h25
    obtain ⟨b, hx1, hx2⟩ := hcut.at (i := j) (by omega)
    refine kgs ?_
    refine T_block ?_
    refine tx ?_
    refine s1 (y_indexAddr rfl rfl rfl Tryz.underlying117 sz191 (fun hg => hcut.isSome (by omega)) (fun _ => by omega)) ?_
    refine s1 (y_loadT rfl rfl hcut (fun _ => rfl) (fun _ => hx1) Tryz.underlying191 rfl sz191) ?_
    refine S_alloc 8 8 rfl rfl rfl rfl z191 ?_
    intro b8
    refine S_store 8 rfl rfl rfl rfl rfl rfl sz191 rfl rfl ?_
    refine sgs ?_
    refine tx ?_
    refine s1 (yF fa191_2) ?_
    refine s1 (yL 8 Tryz.underlying3) ?_
    refine s1 (yF fa191_1) ?_
    refine s1 (yL 5 Tryz.underlying3) ?_
    refine sr 2 ?_
    refine sg rfl (yF fa191_2) ?_
    refine sg rfl (yL 5 Tryz.underlying3) ?_
    refine sg rfl (yF fa191_1) ?_
    refine sg rfl (yL 8 Tryz.underlying3) ?_
    refine sg rfl (y_bin rfl rfl rfl (fun _ => b_leq)) ?_
    refine s1 (y_as (v' := .bool (apartB b c)) (by exact rfl) (y_or rfl rfl rfl)) ?_
    refine sgo ?_
    refine T_cond rfl ?_ ?_ <;> intro h39
    · skip
      refine egr ?_
      refine s1 (y_bin rfl rfl rfl (fun hg => b_add (by omega))) ?_
      refine sr 1 ?_
      refine S_nil (nK2 (kf := [(4, 4), (6, 6), (8, 8), (24, 54)]) (kl := [(4, 4), (6, 6), (8, 8), (24, 54)]) (j + 1) deep ?_ ?_ ?_ ?_)
      · omega
      · exact ⟨by omega, by rw [hp2, hx2, nestNo, if_t h39], by omega, by omega⟩
      · exact ⟨rfl, rfl, trivial⟩
      · exact trivial
    refine kgs ?_
    refine tx ?_
    refine s1 (yF fa191_1) ?_
    refine s1 (yL 8 Tryz.underlying3) ?_
    refine s1 (yF fa191_1) ?_
    refine s1 (yL 5 Tryz.underlying3) ?_
    refine sr 2 ?_
    refine sg rfl (yF fa191_2) ?_
    refine sg rfl (yL 8 Tryz.underlying3) ?_
    refine sg rfl (yF fa191_2) ?_
    refine sg rfl (yL 5 Tryz.underlying3) ?_
    refine sg rfl (y_bin rfl rfl rfl (fun _ => b_lss)) ?_
    refine s1 (y_as (v' := .bool (cutsB b c)) (by exact rfl) (y_or rfl rfl rfl)) ?_
    refine sgo ?_
    refine T_cond rfl ?_ ?_ <;> intro h51
    · skip
      refine tx ?_
      refine sr 1 ?_
      refine sgo ?_
      refine tr1 hRb fun w hM => ?_
      exact ⟨by rw [callNo, if_f h18, hp2, hx2, nestNo, if_f h39, if_t h51], hM.below⟩
    refine kgr ?_
    refine sr 1 ?_
    refine s1 (y_bin rfl rfl rfl (fun hg => b_add (by omega))) ?_
    refine sr 1 ?_
    refine sgr ?_
    refine s1 (y_bin rfl rfl rfl (fun hg => b_add (by omega))) ?_
    refine sr 1 ?_
    refine S_nil (nK2 (kf := [(4, 4), (6, 6), (8, 8), (24, 54)]) (kl := [(4, 4), (6, 6), (8, 8), (24, 54)]) (j + 1) (deep + 1) ?_ ?_ ?_ ?_)
    · omega
    · exact ⟨by omega, by rw [hp2, hx2, nestNo, if_f h39, if_f h51], by omega, by omega⟩
    · exact ⟨rfl, rfl, trivial⟩
    · exact trivial
  try simp only [nrm] at h25
  refine egs ?_
  refine tx ?_
  refine sr 2 ?_
  refine sgo ?_
  refine T_cond rfl ?_ ?_ <;> intro h56
  · try simp only [nrm] at h56
    refine tx ?_
    refine sr 1 ?_
    refine sgo ?_
    refine tr1 hRb fun w hM => ?_
    exact ⟨by rw [callNo, if_f h18, hp2, hcut.end (by omega), nestNo, if_pos (by omega)], hM.below⟩
  try simp only [nrm] at h56
  refine kgx ?_
  refine sr 1 ?_
  refine sgo ?_
  refine tr1 hRb fun w hM => ?_
  exact ⟨by rw [callNo, if_f h18, hp2, hcut.end (by omega), nestNo, if_neg (by omega)], hM.below⟩
theorem late0 {size nf : Int} {c : SCall} (h : callBad size nf c = false) : callLate call0 c = false := by
  simp only [callBad, spanBad, outB, Bool.or_eq_false_iff, decide_eq_false_iff_not] at h
  show (decide (c.fr < -1) || (decide (c.fr = -1) && decide (-1 < c.tu))) = false
  simp only [Bool.or_eq_false_iff, Bool.and_eq_false_iff, decide_eq_false_iff_not]
  omega
theorem checkCalls_any (t : Tab) (w : World) (hok : t.Ok w) (hz : 1 ≤ t.size ∧ t.size ≤ 4294967296) :
    Calls Tryz.prog 158 #[.agg #[str t.id, .int .i64 t.size, .slice t.fi.A t.fi.q t.fi.c, .slice t.fu.A t.fu.q t.fu.c, .slice t.ro.A t.ro.q t.ro.c, .slice t.ca.A t.ca.q t.ca.c]] w fun e w' => e = .returned (.int .i64 (if (1000 : Int) < t.ca.q then 4 else callsNo t.size t.fi.q t.fu.l [] t.ca.l call0)) ∧ Below w.heap.size w w' := by
  have ht := hok.ca.t
  have hq := hok.small
  refine enter_args (args := [.agg #[str t.id, .int .i64 t.size, .slice t.fi.A t.fi.q t.fi.c, .slice t.fu.A t.fu.q t.fu.c, .slice t.ro.A t.ro.q t.ro.c, .slice t.ca.A t.ca.q t.ca.c]]) (F := _) Tryz.func158 rfl Tryz.ntmps158 rfl rfl ?_
  intro Rb hRb hRn
  refine tx ?_
  refine S_box 1 1 rfl rfl rfl rfl rfl ?_
  intro b1
  refine sr 1 ?_
  refine sgs ?_
  refine tx ?_
  refine s1 (yF fa119_5) ?_
  refine s1 (yL 1 Tryz.underlying117) ?_
  refine s1 (y_len_slice rfl rfl Tryz.underlying117) ?_
  refine sr 1 ?_
  refine sgo ?_
  refine T_cond rfl ?_ ?_ <;> intro h11
  · try simp only [nrm] at h11
    refine tx ?_
    refine sr 1 ?_
    refine sgo ?_
    refine tr1 hRb fun w hM => ?_
    exact ⟨by rw [if_pos (by omega)], hM.below⟩
  try simp only [nrm] at h11
  refine kgs ?_
  refine tx ?_
  refine s1 (yF fa119_5) ?_
  refine s1 (yL 1 Tryz.underlying117) ?_
  refine s1 (y_len_slice rfl rfl Tryz.underlying117) ?_
  refine sr 1 ?_
  refine sgo ?_
  refine T_block ?_
  refine lK2 (kf := [(2, 7), (15, 89)]) (kl := [(2, 7), (15, 89)]) (fun (i : Nat) (b : SCall) => [(15, true, .int .i64 (i : Int))]) (fun (i : Nat) (b : SCall) => []) (fun (i : Nat) (b : SCall) => i ≤ t.ca.q ∧ callsNo t.size t.fi.q t.fu.l [] t.ca.l call0 = callsNo t.size t.fi.q t.fu.l (t.ca.l.take i) (t.ca.l.drop i) b ∧ (0 < i → t.ca.l[i - 1]? = some b) ∧ (i = 0 → b = call0)) (fun (i : Nat) (b : SCall) => t.ca.q - i) 0 call0 ?_ ?_ ?_ ?_
  · exact ⟨by omega, rfl, by omega, fun _ => rfl⟩
  · exact ⟨rfl, trivial⟩
  · exact trivial
  rintro i b ⟨hp1, hp2, hp3, hp4⟩
  refine tx ?_
  refine sr 1 ?_
  refine sgs ?_
  refine T_cond rfl ?_ ?_ <;> intro h16
  · try simp only [nrm] at h16
    obtain ⟨c, hx1, hx2⟩ := ht.at (i := i) (by omega)
    have hn1 := hok.names.2.2 c (mem_at hx1)
    refine kgs ?_
    refine T_block ?_
    refine tx ?_
    refine sr 1 ?_
    refine s1 (y_indexAddr rfl rfl rfl Tryz.underlying117 sz191 (fun hg => ht.isSome (by omega)) (fun _ => by omega)) ?_
    refine s1 (y_loadT rfl rfl ht (fun _ => rfl) (fun _ => hx1) Tryz.underlying191 rfl sz191) ?_
    refine S_alloc 4 4 rfl rfl rfl rfl z191 ?_
    intro b4
    refine sr 1 ?_
    refine S_store 4 rfl rfl rfl rfl rfl rfl sz191 rfl rfl ?_
    refine sgs ?_
    refine tx ?_
    refine s1 (yF fa191_0) ?_
    refine s1 (yL 4 Tryz.underlying9) ?_
    refine s1 (y_call rfl rfl rfl cf212 (fun _ w _ => checkName_any _ (by omega) w)) ?_
    refine sr 1 ?_
    refine sgx ?_
    refine sr 2 ?_
    refine sgo ?_
    refine T_cond rfl ?_ ?_ <;> intro h24
    · try simp only [nrm] at h24
      refine tx ?_
      refine sr 2 ?_
      refine sgo ?_
      refine tr1 hRb fun w hM => ?_
      exact ⟨by rw [if_neg (by omega), hp2, hx2, callsNo, if_pos h24], hM.below⟩
    try simp only [nrm] at h24
    refine kgs ?_
    refine tx ?_
    refine s1 (yF fa191_1) ?_
    refine s1 (yL 4 Tryz.underlying3) ?_
    refine s1 (yF fa119_1) ?_
    refine s1 (yL 1 Tryz.underlying3) ?_
    refine s1 (y_bin rfl rfl rfl (fun hg => b_sub (by omega))) ?_
    refine s1 (y_call rfl rfl rfl cf154 (fun _ w _ => outsideB_any _ _ _ w)) ?_
    refine sr 1 ?_
    refine sg rfl (yF fa191_2) ?_
    refine sg rfl (yL 4 Tryz.underlying3) ?_
    refine sg rfl (yF fa191_1) ?_
    refine sg rfl (yL 4 Tryz.underlying3) ?_
    refine sg rfl (y_bin rfl rfl rfl (fun hg => b_add (by simp only [outB, spanBad, Bool.true_and, Bool.and_eq_true, beq_iff_eq, Bool.or_eq_false_iff, Bool.or_eq_true, decide_eq_false_iff_not, decide_eq_true_eq, Int.not_lt] at hg; omega))) ?_
    refine sg rfl (yF fa119_1) ?_
    refine sg rfl (yL 1 Tryz.underlying3) ?_
    refine sg rfl (y_call rfl rfl rfl cf154 (fun _ w _ => outsideB_any _ _ _ w)) ?_
    refine s1 (y_or rfl rfl rfl) ?_
    refine sr 1 ?_
    refine sg rfl (yF fa191_3) ?_
    refine sg rfl (yL 4 Tryz.underlying3) ?_
    refine sg rfl (yF fa119_2) ?_
    refine sg rfl (yL 1 Tryz.underlying53) ?_
    refine sg rfl (y_len_slice rfl rfl Tryz.underlying53) ?_
    refine sg rfl (y_bin rfl rfl rfl (fun hg => b_sub (by simp only [Bool.true_and, Bool.and_eq_true, beq_iff_eq, decide_eq_true_eq, decide_eq_false_iff_not, Int.not_lt, Int.not_le] at hg; omega))) ?_
    refine sg rfl (y_call rfl rfl rfl cf154 (fun _ w _ => outsideB_any _ _ _ w)) ?_
    refine s1 (y_or rfl rfl rfl) ?_
    refine sr 1 ?_
    refine sg rfl (yF fa191_4) ?_
    refine sg rfl (yL 4 Tryz.underlying3) ?_
    refine sg rfl (y_call rfl rfl rfl cf154 (fun _ w _ => outsideB_any _ _ _ w)) ?_
    refine s1 (y_as (v' := .bool (callBad t.size t.fi.q c)) (by exact rfl) (y_or rfl rfl rfl)) ?_
    refine sgo ?_
    refine T_cond rfl ?_ ?_ <;> intro h55
    · skip
      refine tx ?_
      refine sr 1 ?_
      refine sgo ?_
      refine tr1 hRb fun w hM => ?_
      exact ⟨by rw [if_neg (by omega), hp2, hx2, callsNo, if_neg (by simpa using h24), if_t h55], hM.below⟩
    refine kgs ?_
    refine tx ?_
    refine sr 2 ?_
    refine sgo ?_
    refine T_cond rfl ?_ ?_ <;> intro h57
    · try simp only [nrm] at h57
      refine tx ?_
      refine s1 (yF fa119_5) ?_
      refine s1 (yL 1 Tryz.underlying117) ?_
      refine sr 1 ?_
      refine s1 (y_bin rfl rfl rfl (fun hg => b_subv (((i - 1 : Nat) : Int)) (by omega) (by omega))) ?_
      refine s1 (y_indexAddr rfl rfl rfl Tryz.underlying117 sz191 (fun hg => ht.isSome (by omega)) (fun _ => by omega)) ?_
      refine s1 (y_loadT rfl rfl ht (fun _ => rfl) (fun _ => hp3 (by omega)) Tryz.underlying191 rfl sz191) ?_
      refine S_alloc 6 6 rfl rfl rfl rfl z191 ?_
      intro b6
      refine S_store 6 rfl rfl rfl rfl rfl rfl sz191 rfl rfl ?_
      refine sgx ?_
      refine s1 (yF fa191_1) ?_
      refine s1 (yL 4 Tryz.underlying3) ?_
      refine s1 (yF fa191_1) ?_
      refine s1 (yL 6 Tryz.underlying3) ?_
      refine sr 2 ?_
      refine sg rfl (yF fa191_1) ?_
      refine sg rfl (yL 4 Tryz.underlying3) ?_
      refine sg rfl (yF fa191_1) ?_
      refine sg rfl (yL 6 Tryz.underlying3) ?_
      refine sg rfl (y_bin rfl rfl rfl (fun _ => b_eql)) ?_
      refine sg rfl (y_move rfl rfl) ?_
      refine sg rfl (yF fa191_2) ?_
      refine sg rfl (yL 4 Tryz.underlying3) ?_
      refine sg rfl (yF fa191_2) ?_
      refine sg rfl (yL 6 Tryz.underlying3) ?_
      refine sg rfl (y_bin rfl rfl rfl (fun _ => b_gtr)) ?_
      refine sg rfl (y_and rfl rfl rfl) ?_
      refine s1 (y_as (v' := .bool (callLate b c)) (by exact rfl) (y_or rfl rfl rfl)) ?_
      refine sgo ?_
      refine T_cond rfl ?_ ?_ <;> intro h82
      · skip
        refine tx ?_
        refine sr 1 ?_
        refine sgo ?_
        refine tr1 hRb fun w hM => ?_
        exact ⟨by rw [if_neg (by omega), hp2, hx2, callsNo, if_neg (by simpa using h24), if_f h55, if_t h82], hM.below⟩
      refine kgx ?_
      refine s1 (yA 1 rfl Tryz.underlying119 sz119) ?_
      refine sr 1 ?_
      refine s1 (y_call rfl rfl rfl cf213 (fun _ w hM => checkCall_any t i c w (hok.below hM.below) hx1 (by omega))) ?_
      refine sr 1 ?_
      refine sgx ?_
      refine sr 2 ?_
      refine sgo ?_
      refine T_cond rfl ?_ ?_ <;> intro h87
      · try simp only [nrm] at h87
        refine tx ?_
        refine sr 2 ?_
        refine sgo ?_
        refine tr1 hRb fun w hM => ?_
        exact ⟨by rw [if_neg (by omega), hp2, hx2, callsNo, if_neg (by simpa using h24), if_f h55, if_f h82, if_pos h87], hM.below⟩
      try simp only [nrm] at h87
      refine kgr ?_
      refine s1 (y_bin rfl rfl rfl (fun hg => b_add (by omega))) ?_
      refine sr 1 ?_
      refine S_nil (nK2 (kf := [(2, 7), (15, 89)]) (kl := [(2, 7), (15, 89)]) (i + 1) c ?_ ?_ ?_ ?_)
      · omega
      · exact ⟨by omega, by rw [hp2, hx2, callsNo, if_neg (by simpa using h24), if_f h55, if_f h82, if_neg (by simpa using h87), take_succ_at hx1], fun _ => hx1, by omega⟩
      · exact ⟨rfl, trivial⟩
      · exact trivial
    try simp only [nrm] at h57
    have h82 : callLate b c = false := by rw [hp4 (by omega)]; exact late0 h55
    refine kgx ?_
    refine s1 (yA 1 rfl Tryz.underlying119 sz119) ?_
    refine sr 1 ?_
    refine s1 (y_call rfl rfl rfl cf213 (fun _ w hM => checkCall_any t i c w (hok.below hM.below) hx1 (by omega))) ?_
    refine sr 1 ?_
    refine sgx ?_
    refine sr 2 ?_
    refine sgo ?_
    refine T_cond rfl ?_ ?_ <;> intro h87
    · try simp only [nrm] at h87
      refine tx ?_
      refine sr 2 ?_
      refine sgo ?_
      refine tr1 hRb fun w hM => ?_
      exact ⟨by rw [if_neg (by omega), hp2, hx2, callsNo, if_neg (by simpa using h24), if_f h55, if_f h82, if_pos h87], hM.below⟩
    try simp only [nrm] at h87
    refine kgr ?_
    refine s1 (y_bin rfl rfl rfl (fun hg => b_add (by omega))) ?_
    refine sr 1 ?_
    refine S_nil (nK2 (kf := [(2, 7), (15, 89)]) (kl := [(2, 7), (15, 89)]) (i + 1) c ?_ ?_ ?_ ?_)
    · omega
    · exact ⟨by omega, by rw [hp2, hx2, callsNo, if_neg (by simpa using h24), if_f h55, if_f h82, if_neg (by simpa using h87), take_succ_at hx1], fun _ => hx1, by omega⟩
    · exact ⟨rfl, trivial⟩
    · exact trivial
  try simp only [nrm] at h16
  refine egx ?_
  refine sr 1 ?_
  refine sgo ?_
  refine tr1 hRb fun w hM => ?_
  exact ⟨by rw [if_neg (by omega), hp2, ht.end (by omega)]; rfl, hM.below⟩
theorem size_of_out {n : Int} (h : outB n 1 4294967296 = false) : 1 ≤ n ∧ n ≤ 4294967296 := by
  simp only [outB, Bool.or_eq_false_iff, decide_eq_false_iff_not] at h; omega
theorem CheckTable_any (t : Tab) (w : World) (hok : t.Ok w) :
    Calls Tryz.prog 66 #[.agg #[str t.id, .int .i64 t.size, .slice t.fi.A t.fi.q t.fi.c, .slice t.fu.A t.fu.q t.fu.c, .slice t.ro.A t.ro.q t.ro.c, .slice t.ca.A t.ca.q t.ca.c]] w fun e w' => e = .returned (.int .i64 (tabNo t)) ∧ Below w.heap.size w w' := by
  have hq := hok.small
  refine enter_args (args := [.agg #[str t.id, .int .i64 t.size, .slice t.fi.A t.fi.q t.fi.c, .slice t.fu.A t.fu.q t.fu.c, .slice t.ro.A t.ro.q t.ro.c, .slice t.ca.A t.ca.q t.ca.c]]) (F := _) Tryz.func66 rfl Tryz.ntmps66 rfl rfl ?_
  intro Rb hRb hRn
  refine tx ?_
  refine S_box 1 1 rfl rfl rfl rfl rfl ?_
  intro b1
  refine sr 1 ?_
  refine sgs ?_
  refine tx ?_
  refine s1 (yF fa119_0) ?_
  refine s1 (yL 1 Tryz.underlying9) ?_
  refine s1 (y_call rfl rfl rfl cf153 (fun _ w _ => IsId_any _ w)) ?_
  refine sr 1 ?_
  refine sgo ?_
  refine T_cond rfl ?_ ?_ <;> intro h9
  · skip
    refine tx ?_
    refine sr 1 ?_
    refine sgo ?_
    refine tr1 hRb fun w hM => ?_
    exact ⟨by rw [tabNo, if_t h9], hM.below⟩
  refine kgs ?_
  refine tx ?_
  refine s1 (yF fa119_1) ?_
  refine s1 (yL 1 Tryz.underlying3) ?_
  refine s1 (y_call rfl rfl rfl cf154 (fun _ w _ => outsideB_any _ _ _ w)) ?_
  refine sgo ?_
  refine T_cond rfl ?_ ?_ <;> intro h12
  · skip
    refine tx ?_
    refine sr 1 ?_
    refine sgo ?_
    refine tr1 hRb fun w hM => ?_
    exact ⟨by rw [tabNo, if_f h9, if_t h12], hM.below⟩
  have hz := size_of_out h12
  refine kgs ?_
  refine tx ?_
  refine s1 (yF fa119_2) ?_
  refine s1 (yL 1 Tryz.underlying53) ?_
  refine s1 (y_call rfl rfl rfl cf155 (fun _ w hM => checkFiles_any t.fi w (hok.fi.below hM.below) (by omega) hok.names.1)) ?_
  refine sr 1 ?_
  refine sgx ?_
  refine sr 2 ?_
  refine sgo ?_
  refine T_cond rfl ?_ ?_ <;> intro h17
  · try simp only [nrm] at h17
    refine tx ?_
    refine sr 2 ?_
    refine sgo ?_
    refine tr1 hRb fun w hM => ?_
    exact ⟨by rw [tabNo, if_f h9, if_f h12, fst_a rfl h17], hM.below⟩
  try simp only [nrm] at h17
  refine kgs ?_
  refine tx ?_
  refine s1 (yA 1 rfl Tryz.underlying119 sz119) ?_
  refine s1 (y_call rfl rfl rfl cf156 (fun _ w hM => checkFuncs_any t w (hok.below hM.below) hz)) ?_
  refine sr 1 ?_
  refine sgx ?_
  refine sr 2 ?_
  refine sgo ?_
  refine T_cond rfl ?_ ?_ <;> intro h22
  · try simp only [nrm] at h22
    refine tx ?_
    refine sr 2 ?_
    refine sgo ?_
    refine tr1 hRb fun w hM => ?_
    exact ⟨by rw [tabNo, if_f h9, if_f h12, fst_b h17 (fst_a rfl h22)], hM.below⟩
  try simp only [nrm] at h22
  refine kgs ?_
  refine tx ?_
  refine s1 (yA 1 rfl Tryz.underlying119 sz119) ?_
  refine s1 (y_call rfl rfl rfl cf157 (fun _ w hM => checkRows_any t w (hok.below hM.below) hz)) ?_
  refine sr 1 ?_
  refine sgx ?_
  refine sr 2 ?_
  refine sgo ?_
  refine T_cond rfl ?_ ?_ <;> intro h27
  · try simp only [nrm] at h27
    refine tx ?_
    refine sr 2 ?_
    refine sgo ?_
    refine tr1 hRb fun w hM => ?_
    exact ⟨by rw [tabNo, if_f h9, if_f h12, fst_b h17 (fst_b h22 (fst_a rfl h27))], hM.below⟩
  try simp only [nrm] at h27
  refine kgx ?_
  refine s1 (yA 1 rfl Tryz.underlying119 sz119) ?_
  refine s1 (y_call rfl rfl rfl cf158 (fun _ w hM => checkCalls_any t w (hok.below hM.below) hz)) ?_
  refine sr 1 ?_
  refine sgo ?_
  refine tr1 hRb fun w hM => ?_
  exact ⟨by rw [tabNo, if_f h9, if_f h12, fst_b h17 (fst_b h22 (fst_b h27 rfl))], hM.below⟩
theorem CheckModules_any (l : Sl SMod) (w : World) (hok : l.Ok SMod.enc 4 w) (hq : l.q ≤ 4611686018427387904) (hn : ∀ m ∈ l.l, m.name.length ≤ 4611686018427387904 ∧ m.id.length ≤ 4611686018427387904) :
    Calls Tryz.prog 65 #[.slice l.A l.q l.c] w fun e w' => e = .returned (.int .i64 (if (100 : Int) < l.q then 4 else modsNo l.l 0)) ∧ Below w.heap.size w w' := by
  have ht := hok.t
  refine enter_args (args := [.slice l.A l.q l.c]) (F := _) Tryz.func65 rfl Tryz.ntmps65 rfl rfl ?_
  intro Rb hRb hRn
  refine tx ?_
  refine sr 1 ?_
  refine sgs ?_
  refine tx ?_
  refine sr 1 ?_
  refine s1 (y_len_slice rfl rfl Tryz.underlying27) ?_
  refine sr 1 ?_
  refine sgo ?_
  refine T_cond rfl ?_ ?_ <;> intro h9
  · try simp only [nrm] at h9
    refine tx ?_
    refine sr 1 ?_
    refine sgo ?_
    refine tr1 hRb fun w hM => ?_
    exact ⟨by rw [if_pos (by omega)], hM.below⟩
  try simp only [nrm] at h9
  refine kgx ?_
  refine sr 1 ?_
  refine sgs ?_
  refine tx ?_
  refine sr 1 ?_
  refine s1 (y_len_slice rfl rfl Tryz.underlying27) ?_
  refine sr 1 ?_
  refine sgo ?_
  refine T_block ?_
  refine lK2 (kf := [(2, 3), (5, 6), (12, 54)]) (kl := [(2, 3), (5, 6), (12, 54)]) (fun (i : Nat) (last : Int) => [(12, true, .int .i64 (i : Int)), (3, true, .int .i64 last)]) (fun (i : Nat) (last : Int) => []) (fun (i : Nat) (last : Int) => i ≤ l.q ∧ modsNo l.l 0 = modsNo (l.l.drop i) last) (fun (i : Nat) (last : Int) => l.q - i) 0 0 ?_ ?_ ?_ ?_
  · exact ⟨by omega, rfl⟩
  · exact ⟨rfl, rfl, trivial⟩
  · exact trivial
  rintro i last ⟨hp1, hp2⟩
  refine tx ?_
  refine sr 1 ?_
  refine sgs ?_
  refine T_cond rfl ?_ ?_ <;> intro h13
  · try simp only [nrm] at h13
    obtain ⟨m, hx1, hx2⟩ := ht.at (i := i) (by omega)
    have hn1 := hn m (mem_at hx1)
    refine kgs ?_
    refine T_block ?_
    refine tx ?_
    refine s1 (y_indexAddr rfl rfl rfl Tryz.underlying27 sz125 (fun hg => ht.isSome (by omega)) (fun _ => by omega)) ?_
    refine s1 (y_loadT rfl rfl ht (fun _ => rfl) (fun _ => hx1) Tryz.underlying125 rfl sz125) ?_
    refine S_alloc 5 5 rfl rfl rfl rfl z125 ?_
    intro b5
    refine S_store 5 rfl rfl rfl rfl rfl rfl sz125 rfl rfl ?_
    refine sgs ?_
    refine tx ?_
    refine s1 (yF fa125_0) ?_
    refine s1 (yL 5 Tryz.underlying9) ?_
    refine s1 (y_bin rfl rfl rfl (fun _ => b_eqls)) ?_
    refine sgo ?_
    refine T_cond rfl ?_ ?_ <;> intro h18
    · try simp only [nrm] at h18
      refine tx ?_
      refine sr 1 ?_
      refine sgo ?_
      refine tr1 hRb fun w hM => ?_
      exact ⟨by rw [if_neg (by omega), hp2, hx2, modsNo, if_pos h18], hM.below⟩
    try simp only [nrm] at h18
    refine kgs ?_
    refine tx ?_
    refine s1 (yF fa125_0) ?_
    refine s1 (yL 5 Tryz.underlying9) ?_
    refine s1 (y_build (zv := .agg #[.string ⟨#[]⟩, .string ⟨#[]⟩, .string ⟨#[]⟩, .int .i64 0, .int .i64 0, .bool false]) (pl := [(0, 1), (1, 1), (2, 1), (3, 1), (4, 1), (5, 1)]) (out := [_, _, .string ⟨#[]⟩, .int .i64 0, _, .bool false]) rfl rfl Tryz.underlying45 z45 (by kernel_rfl) rfl) ?_
    refine s1 (y_as (v' := .int .i64 (wordsNo m.name [102] [])) (by rw [← frmNo_mod m.name]) (y_call rfl rfl rfl cf152 (fun _ w _ => CheckFrame_any ⟨m.name, [102], [], 0, -1, false⟩ hn1.1 (by simp) (by simp) w))) ?_
    refine sr 1 ?_
    refine sgx ?_
    refine sr 2 ?_
    refine sgo ?_
    refine T_cond rfl ?_ ?_ <;> intro h24
    · try simp only [nrm] at h24
      refine tx ?_
      refine sr 2 ?_
      refine sgo ?_
      refine tr1 hRb fun w hM => ?_
      exact ⟨by rw [if_neg (by omega), hp2, hx2, modsNo, if_neg h18, if_pos h24], hM.below⟩
    try simp only [nrm] at h24
    refine kgs ?_
    refine T_block ?_
    refine tx ?_
    refine s1 (yF fa125_0) ?_
    refine s1 (yL 5 Tryz.underlying9) ?_
    refine s1 (y_call rfl rfl rfl cf72 (fun _ w _ => Contains_any _ _ w)) ?_
    refine sr 1 ?_
    refine sgo ?_
    refine T_cond rfl ?_ ?_ <;> intro h26
    · skip
      refine tx ?_
      refine sr 1 ?_
      refine sgo ?_
      refine tr1 hRb fun w hM => ?_
      exact ⟨by rw [if_neg (by omega), hp2, hx2, modsNo, if_neg h18, if_neg (by simpa using h24), if_t h26], hM.below⟩
    refine tx ?_
    refine s1 (yF fa125_1) ?_
    refine s1 (yL 5 Tryz.underlying9) ?_
    refine s1 (y_call rfl rfl rfl cf153 (fun _ w _ => IsId_any _ w)) ?_
    refine sr 2 ?_
    refine sgo ?_
    refine T_cond rfl ?_ ?_ <;> intro h30
    · skip
      refine tx ?_
      refine sr 1 ?_
      refine sgo ?_
      refine tr1 hRb fun w hM => ?_
      exact ⟨by rw [if_neg (by omega), hp2, hx2, modsNo, if_neg h18, if_neg (by simpa using h24), if_f h26, if_t h30], hM.below⟩
    refine tx ?_
    refine s1 (yF fa125_2) ?_
    refine s1 (yL 5 Tryz.underlying3) ?_
    refine s1 (y_call rfl rfl rfl cf154 (fun _ w _ => outsideB_any _ _ _ w)) ?_
    refine sr 1 ?_
    refine sg rfl (yF fa125_3) ?_
    refine sg rfl (yL 5 Tryz.underlying3) ?_
    refine sg rfl (yF fa125_2) ?_
    refine sg rfl (yL 5 Tryz.underlying3) ?_
    refine sg rfl (y_bin rfl rfl rfl (fun hg => b_add (by simp only [outB, spanBad, Bool.true_and, Bool.and_eq_true, beq_iff_eq, Bool.or_eq_false_iff, Bool.or_eq_true, decide_eq_false_iff_not, decide_eq_true_eq, Int.not_lt] at hg; omega))) ?_
    refine sg rfl (y_call rfl rfl rfl cf154 (fun _ w _ => outsideB_any _ _ _ w)) ?_
    refine s1 (y_or rfl rfl rfl) ?_
    refine sr 1 ?_
    refine sgo ?_
    refine T_cond rfl ?_ ?_ <;> intro h35
    · skip
      refine tx ?_
      refine sr 1 ?_
      refine sgo ?_
      refine tr1 hRb fun w hM => ?_
      exact ⟨by rw [if_neg (by omega), hp2, hx2, modsNo, if_neg h18, if_neg (by simpa using h24), if_f h26, if_f h30, if_t h35], hM.below⟩
    refine tx ?_
    refine s1 (yF fa125_2) ?_
    refine s1 (yL 5 Tryz.underlying3) ?_
    refine sr 3 ?_
    refine sgo ?_
    refine T_cond rfl ?_ ?_ <;> intro h47
    · try simp only [nrm] at h47
      refine tx ?_
      refine sr 1 ?_
      refine sgo ?_
      refine tr1 hRb fun w hM => ?_
      exact ⟨by rw [if_neg (by omega), hp2, hx2, modsNo, if_neg h18, if_neg (by simpa using h24), if_f h26, if_f h30, if_f h35, if_pos (by omega)], hM.below⟩
    try simp only [nrm] at h47
    refine kgr ?_
    refine s1 (yF fa125_3) ?_
    refine s1 (yL 5 Tryz.underlying3) ?_
    refine sr 1 ?_
    refine sgr ?_
    refine s1 (y_bin rfl rfl rfl (fun hg => b_add (by omega))) ?_
    refine sr 1 ?_
    refine S_nil (nK2 (kf := [(2, 3), (5, 6), (12, 54)]) (kl := [(2, 3), (5, 6), (12, 54)]) (i + 1) m.tu ?_ ?_ ?_ ?_)
    · omega
    · exact ⟨by omega, by rw [hp2, hx2, modsNo, if_neg h18, if_neg (by simpa using h24), if_f h26, if_f h30, if_f h35, if_neg (by omega)]⟩
    · exact ⟨rfl, rfl, trivial⟩
    · exact trivial
  try simp only [nrm] at h13
  refine egx ?_
  refine sr 1 ?_
  refine sgo ?_
  refine tr1 hRb fun w hM => ?_
  exact ⟨by rw [if_neg (by omega), hp2, ht.end (by omega)]; rfl, hM.below⟩
end Go.Proofs.YtgbldojgbpgjbaaGreatDoor.Sy
end
section
namespace Go.Proofs.YtgbldojgbpgjbaaGreatDoor.Sy
set_option linter.unusedSimpArgs false
set_option linter.unusedVariables false
set_option maxRecDepth 20000
open Go.RowKit Go.Eng
/-! ### All of a table, all modules -/
end Go.Proofs.YtgbldojgbpgjbaaGreatDoor.Sy
end
section
namespace Go.Proofs.YtgbldojgbpgjbaaGreatDoor.Sy
set_option linter.unusedSimpArgs false
set_option linter.unusedVariables false
set_option maxRecDepth 20000
open Go.RowKit Go.Eng
theorem fst_zero {a b : Int} (h : fst a b = 0) : a = 0 ∧ b = 0 := by
  unfold fst at h
  by_cases ha : a = 0
  · rw [if_neg (by simp [ha])] at h; exact ⟨ha, h⟩
  · rw [if_pos ha] at h; exact absurd h ha
theorem le_of_ite {p : Prop} [Decidable p] {a : Int} (h : (if p then (4 : Int) else a) = 0) : ¬ p ∧ a = 0 := by
  by_cases hp : p
  · rw [if_pos hp] at h; cases h
  · rw [if_neg hp] at h; exact ⟨hp, h⟩
/-- what a right table keeps -/
theorem rows_of {t : Tab} (h : tabNo t = 0) : (idOk t.id = true ∧ outB t.size 1 4294967296 = false) ∧ t.fi.q ≤ 200 ∧ t.fu.q ≤ 1000 ∧ t.ro.q ≤ 5000 ∧ t.ca.q ≤ 1000 := by
  unfold tabNo at h
  split at h
  · cases h
  rename_i h1
  split at h
  · cases h
  rename_i h2
  obtain ⟨a, h⟩ := fst_zero h
  obtain ⟨b, h⟩ := fst_zero h
  obtain ⟨c, d⟩ := fst_zero h
  have a := (le_of_ite a).1
  have b := (le_of_ite b).1
  have c := (le_of_ite c).1
  have d := (le_of_ite d).1
  exact ⟨⟨by simpa using h1, by simpa using h2⟩, by omega, by omega, by omega, by omega⟩
end Go.Proofs.YtgbldojgbpgjbaaGreatDoor.Sy
end
section
namespace Go.Proofs.YtgbldojgbpgjbaaGreatDoor.Sy
set_option linter.unusedSimpArgs false
set_option linter.unusedVariables false
set_option maxRecDepth 20000
open Go.RowKit Go.Eng
theorem FuncAt_any (t : Tab) (x : Int) (w : World) (hok : t.Ok w) :
    Calls Tryz.prog 161 #[.agg #[str t.id, .int .i64 t.size, .slice t.fi.A t.fi.q t.fi.c, .slice t.fu.A t.fu.q t.fu.c, .slice t.ro.A t.ro.q t.ro.c, .slice t.ca.A t.ca.q t.ca.c], .int .i64 x] w fun e w' => e = .returned (found (SFunc.has x) t.fu.l) ∧ Below w.heap.size w w' := by
  refine enter_args (args := [.agg #[str t.id, .int .i64 t.size, .slice t.fi.A t.fi.q t.fi.c, .slice t.fu.A t.fu.q t.fu.c, .slice t.ro.A t.ro.q t.ro.c, .slice t.ca.A t.ca.q t.ca.c], .int .i64 x]) (F := _) Tryz.func161 rfl Tryz.ntmps161 rfl rfl ?_
  intro Rb hRb hRn
  refine tx ?_
  refine S_box 2 2 rfl rfl rfl rfl rfl ?_
  intro b2
  refine S_box 3 3 rfl rfl rfl rfl rfl ?_
  intro b3
  refine sr 2 ?_
  refine sgx ?_
  refine s1 (yF fa119_3) ?_
  refine s1 (yL 2 Tryz.underlying115) ?_
  refine s1 (y_makeFunc rfl rfl rfl rfl rfl) ?_
  refine s1 (y_call rfl rfl rfl cf214 (fun _ w hM => IndexFuncF_any _ _ _ _ _ _ (SFunc.has x) w (hok.fu.t.below hM.below) (hok.small.2.2.1) (asks_FuncAt (hM.box_cell (i := 3) rfl rfl)))) ?_
  refine sr 1 ?_
  refine sgx ?_
  refine sr 1 ?_
  refine s1 (y_max rfl rfl rfl) ?_
  refine sr 4 ?_
  refine sgo ?_
  refine tr2 hRb fun w hM => ?_
  exact ⟨rfl, hM.below⟩
theorem ModuleAt_any (l : Sl SMod) (x : Int) (w : World) (hok : l.Ok SMod.enc 4 w) (hq : l.q ≤ 4611686018427387904) :
    Calls Tryz.prog 67 #[.slice l.A l.q l.c, .int .i64 x] w fun e w' => e = .returned (found (SMod.has x) l.l) ∧ Below w.heap.size w w' := by
  refine enter_args (args := [.slice l.A l.q l.c, .int .i64 x]) (F := _) Tryz.func67 rfl Tryz.ntmps67 rfl rfl ?_
  intro Rb hRb hRn
  refine tx ?_
  refine S_box 3 3 rfl rfl rfl rfl rfl ?_
  intro b3
  refine sr 2 ?_
  refine sgx ?_
  refine sr 1 ?_
  refine s1 (y_makeFunc rfl rfl rfl rfl rfl) ?_
  refine s1 (y_call rfl rfl rfl cf159 (fun _ w hM => IndexFuncM_any _ _ _ _ _ _ (SMod.has x) w (hok.t.below hM.below) (hq) (asks_ModuleAt (hM.box_cell (i := 3) rfl rfl)))) ?_
  refine sr 1 ?_
  refine sgx ?_
  refine sr 1 ?_
  refine s1 (y_max rfl rfl rfl) ?_
  refine sr 4 ?_
  refine sgo ?_
  refine tr2 hRb fun w hM => ?_
  exact ⟨rfl, hM.below⟩
end Go.Proofs.YtgbldojgbpgjbaaGreatDoor.Sy
end
section
namespace Go.Proofs.YtgbldojgbpgjbaaGreatDoor.Sy
set_option linter.unusedSimpArgs false
set_option linter.unusedVariables false
set_option maxRecDepth 20000
open Go.RowKit Go.Eng
/-- how many rows lie before x -/
def rowsBefore (x : Int) : List SRow → Nat
  | [] => 0
  | r :: rest => if r.pos < x then rowsBefore x rest + 1 else 0
def Rising (l : List SRow) : Prop := ∀ (i j : Nat) (a b : SRow), l[i]? = some a → l[j]? = some b → i < j → a.pos < b.pos
theorem rowsBefore_of {x : Int} : ∀ (l : List SRow) (n : Nat), n ≤ l.length → (∀ i a, i < n → l[i]? = some a → a.pos < x) → (∀ a, l[n]? = some a → x ≤ a.pos) → rowsBefore x l = n
  | [], n, h, _, _ => by simp at h; simp [rowsBefore, h]
  | r :: rest, 0, _, _, h2 => by have := h2 r rfl; simp only [rowsBefore]; rw [if_neg (by omega)]
  | r :: rest, n + 1, h, h1, h2 => by
    simp only [rowsBefore]
    rw [if_pos (h1 0 r (by omega) rfl), rowsBefore_of rest n (by simpa using h) (fun i a hi ha => h1 (i + 1) a (by omega) (by simpa using ha)) (fun a ha => h2 a (by simpa using ha))]
theorem isNaN_any (x : Int) (w : World) : Calls Tryz.prog 263 #[.int .i64 x] w fun e w' => e = .returned (.bool false) ∧ Below w.heap.size w w' := by
  refine enter_args (args := [.int .i64 x]) (F := _) Tryz.func263 rfl Tryz.ntmps263 rfl rfl ?_
  intro Rb hRb hRn
  refine tx ?_
  refine sr 1 ?_
  refine sgx ?_
  refine sr 4 ?_
  refine sgo ?_
  refine tr1 hRb fun w hM => ?_
  exact ⟨by simp, hM.below⟩
def cmpI (a b : Int) : Int := if a < b then -1 else if b < a then 1 else 0
theorem cmp_any (a b : Int) (w : World) : Calls Tryz.prog 218 #[.int .i64 a, .int .i64 b] w fun e w' => e = .returned (.int .i64 (cmpI a b)) ∧ Below w.heap.size w w' := by
  refine enter_args (args := [.int .i64 a, .int .i64 b]) (F := _) Tryz.func218 rfl Tryz.ntmps218 rfl rfl ?_
  intro Rb hRb hRn
  refine tx ?_
  refine sr 1 ?_
  refine sgx ?_
  refine sr 1 ?_
  refine s1 (y_call rfl rfl rfl cf263 (fun _ w _ => isNaN_any _ w)) ?_
  refine sr 1 ?_
  refine sgx ?_
  refine sr 1 ?_
  refine s1 (y_call rfl rfl rfl cf263 (fun _ w _ => isNaN_any _ w)) ?_
  refine sr 1 ?_
  refine sgs ?_
  refine tx ?_
  refine sr 1 ?_
  refine sgo ?_
  refine T_cond rfl ?_ ?_ <;> intro h11
  · try simp only [nrm] at h11
    cases h11
  try simp only [nrm] at h11
  refine kgs ?_
  refine tx ?_
  refine sr 1 ?_
  refine sgo ?_
  refine T_cond rfl ?_ ?_ <;> intro h13
  · try simp only [nrm] at h13
    cases h13
  try simp only [nrm] at h13
  refine kgs ?_
  refine tx ?_
  refine sr 3 ?_
  refine sgo ?_
  refine T_cond rfl ?_ ?_ <;> intro h16
  · try simp only [nrm] at h16
    refine tx ?_
    refine sr 1 ?_
    refine sgo ?_
    refine tr1 hRb fun w hM => ?_
    exact ⟨by rw [cmpI, if_pos h16], hM.below⟩
  try simp only [nrm] at h16
  refine kgs ?_
  refine tx ?_
  refine sr 3 ?_
  refine sgo ?_
  refine T_cond rfl ?_ ?_ <;> intro h19
  · try simp only [nrm] at h19
    refine tx ?_
    refine sr 1 ?_
    refine sgo ?_
    refine tr1 hRb fun w hM => ?_
    exact ⟨by rw [cmpI, if_neg (by omega), if_pos h19], hM.below⟩
  try simp only [nrm] at h19
  refine kgx ?_
  refine sr 1 ?_
  refine sgo ?_
  refine tr1 hRb fun w hM => ?_
  exact ⟨by rw [cmpI, if_neg (by omega), if_neg (by omega)], hM.below⟩
theorem rowAt1_any (r : SRow) (x : Int) (w : World) :
    Calls Tryz.prog 217 #[.agg r.enc.toArray, .int .i64 x] w fun e w' => e = .returned (.int .i64 (cmpI r.pos x)) ∧ Below w.heap.size w w' := by
  refine enter_args (args := [.agg #[.int .i64 r.pos, .int .i64 r.fi, .int .i64 r.ln], .int .i64 x]) (F := _) Tryz.func217 rfl Tryz.ntmps217 rfl rfl ?_
  intro Rb hRb hRn
  refine tx ?_
  refine S_box 2 2 rfl rfl rfl rfl rfl ?_
  intro b2
  refine sr 1 ?_
  refine sgx ?_
  refine s1 (yF fa242_0) ?_
  refine s1 (yL 2 Tryz.underlying3) ?_
  refine sr 1 ?_
  refine s1 (y_call rfl rfl rfl cf218 (fun _ w _ => cmp_any r.pos x w)) ?_
  refine sr 1 ?_
  refine sgo ?_
  refine tr1 hRb fun w hM => ?_
  exact ⟨rfl, hM.below⟩
theorem cmp_lt {a b : Int} : cmpI a b < 0 ↔ a < b := by unfold cmpI; split <;> (try split) <;> omega
theorem cmp_ge {a b : Int} (h : 0 ≤ cmpI a b) : b ≤ a := by
  by_cases hc : a < b
  · have := cmp_lt.2 hc; omega
  · omega
theorem cmp_eq {a b : Int} : cmpI a b = 0 ↔ a = b := by unfold cmpI; split <;> (try split) <;> omega
theorem rise_left {l : List SRow} (hr : Rising l) {n : Nat} {m : SRow} {x : Int} (hm : l[n]? = some m) (h : m.pos < x) : ∀ k a, k < n + 1 → l[k]? = some a → a.pos < x := fun k a hk ha => by
  by_cases e : k = n
  · subst e; rw [hm] at ha; cases ha; exact h
  · have := hr k n a m ha hm (by omega); omega
theorem rise_right {l : List SRow} (hr : Rising l) {n : Nat} {m : SRow} {x : Int} (hm : l[n]? = some m) (h : x ≤ m.pos) : ∀ k a, n ≤ k → l[k]? = some a → x ≤ a.pos := fun k a hk ha => by
  by_cases e : k = n
  · subst e; rw [hm] at ha; cases ha; exact h
  · have := hr n k m a hm ha (by omega); omega
theorem found_dec {l : List SRow} {i q : Nat} {m : SRow} {x : Int} (hlen : l.length = q) (hn : i < q → l[i]? = some m) : (decide (i < q) && decide (cmpI m.pos x = 0)) = decide (∃ r, l[i]? = some r ∧ r.pos = x) := by
  rw [Bool.eq_iff_iff]
  simp only [Bool.and_eq_true, decide_eq_true_eq, cmp_eq]
  constructor
  · rintro ⟨h1, h2⟩; exact ⟨m, hn h1, h2⟩
  · rintro ⟨r, h1, h2⟩
    have hi : i < q := by have := (List.getElem?_eq_some_iff.1 h1).1; omega
    rw [hn hi] at h1; cases h1; exact ⟨hi, h2⟩
theorem BSearch_any (A : Option Addr) (q c : Nat) (l : List SRow) (x : Int) (w : World) (hl : SlT SRow.enc 3 w A q l) (hq : q ≤ 4611686018427387904) (hr : Rising l) :
    Calls Tryz.prog 216 #[.slice A q c, .int .i64 x, .func (.func 217) #[] #[]] w fun e w' =>
      e = .returned (.tuple #[.int .i64 (rowsBefore x l : Int), .bool (decide (∃ r, l[rowsBefore x l]? = some r ∧ r.pos = x))]) ∧ Below w.heap.size w w' := by
  have hlen := hl.len
  refine enter_args (args := [.slice A q c, .int .i64 x, .func (.func 217) #[] #[]]) (F := _) Tryz.func216 rfl Tryz.ntmps216 rfl rfl ?_
  intro Rb hRb hRn
  refine tx ?_
  refine sr 2 ?_
  refine sgx ?_
  refine sr 1 ?_
  refine s1 (y_len_slice rfl rfl Tryz.underlying116) ?_
  refine sr 1 ?_
  refine sgx ?_
  refine sr 3 ?_
  refine sgs ?_
  refine T_block ?_
  refine lK2 (kf := [(9, 11), (15, 34)]) (kl := [(9, 11), (15, 34)]) (fun (i j : Nat) => [(9, true, .int .i64 (i : Int)), (10, true, .int .i64 (j : Int))]) (fun (i j : Nat) => []) (fun (i j : Nat) => i ≤ j ∧ j ≤ q ∧ (∀ k a, k < i → l[k]? = some a → a.pos < x) ∧ (∀ k a, j ≤ k → l[k]? = some a → x ≤ a.pos)) (fun (i j : Nat) => j - i) 0 q ?_ ?_ ?_ ?_
  · exact ⟨by omega, by omega, fun k a h => by omega, fun k a h ha => by have := (List.getElem?_eq_some_iff.1 ha).1; omega⟩
  · exact ⟨rfl, rfl, trivial⟩
  · exact trivial
  rintro i j ⟨hp1, hp2, hp3, hp4⟩
  refine T_seq ?_
  refine tx ?_
  refine sr 3 ?_
  refine sgo ?_
  refine T_cond rfl ?_ ?_ <;> intro h17
  · try simp only [nrm] at h17
    obtain ⟨m, hm, _⟩ := hl.at (i := (i + j) / 2) (by omega)
    refine kgo ?_
    refine T_block ?_
    refine tx ?_
    refine sr 2 ?_
    refine s1 (y_bin rfl rfl rfl (fun hg => b_add (by omega))) ?_
    refine s1 (y_as (v' := .int .u64 ((i : Int) + (j : Int))) (by rw [wrap64_in (by omega)]) (y_conv rfl rfl Tryz.underlying3 Tryz.underlying214)) ?_
    refine s1 (y_bin rfl rfl rfl (fun hg => b_shrv ((((i + j) / 2 : Nat) : Int)) (by decide) (by decide) (by first | (simp; done) | (simp; omega)))) ?_
    refine s1 (y_conv64 rfl rfl Tryz.underlying214 Tryz.underlying3 (fun _ => by omega)) ?_
    refine sr 1 ?_
    refine sgx ?_
    refine sr 3 ?_
    refine s1 (y_indexAddr rfl rfl rfl Tryz.underlying116 sz242 (fun hg => hl.isSome (by omega)) (fun _ => by omega)) ?_
    refine s1 (y_loadT rfl rfl hl (fun _ => rfl) (fun _ => hm) Tryz.underlying242 rfl sz242) ?_
    refine sr 1 ?_
    refine s1 (y_call rfl rfl rfl cf217 (fun _ w _ => rowAt1_any m x w)) ?_
    refine sr 1 ?_
    refine sgo ?_
    refine T_cond rfl ?_ ?_ <;> intro h31
    · try simp only [nrm] at h31
      refine T_region ?_
      refine sr 1 ?_
      refine s1 (y_bin rfl rfl rfl (fun hg => b_add (by omega))) ?_
      refine sr 1 ?_
      refine S_nil (nK2 (kf := [(9, 11), (15, 34)]) (kl := [(9, 11), (15, 34)]) ((i + j) / 2 + 1) j ?_ ?_ ?_ ?_)
      · omega
      · exact ⟨by omega, hp2, rise_left hr hm (cmp_lt.1 h31), hp4⟩
      · exact ⟨rfl, rfl, trivial⟩
      · exact trivial
    try simp only [nrm] at h31
    refine T_region ?_
    refine sr 2 ?_
    refine S_nil (nK2 (kf := [(9, 11), (15, 34)]) (kl := [(9, 11), (15, 34)]) i ((i + j) / 2) ?_ ?_ ?_ ?_)
    · omega
    · exact ⟨by omega, by omega, hp3, rise_right hr hm (cmp_ge h31)⟩
    · exact ⟨rfl, rfl, trivial⟩
    · exact trivial
  try simp only [nrm] at h17
  have hij : i = j := by omega
  subst hij
  obtain ⟨m, hn⟩ : ∃ m : SRow, i < q → l[i]? = some m := by
    by_cases h0 : i < q
    · exact ⟨l[i], fun _ => by simp [hlen, h0]⟩
    · exact ⟨⟨0, 0, 0⟩, fun h => absurd h h0⟩
  refine egx ?_
  refine sr 5 ?_
  refine sg rfl (y_move rfl rfl) ?_
  refine sg rfl (y_move rfl rfl) ?_
  refine sg rfl (y_move rfl rfl) ?_
  refine sg rfl (y_indexAddr rfl rfl rfl Tryz.underlying116 sz242 (fun hg => hl.isSome (by simp only [Bool.true_and, Bool.and_eq_true, beq_iff_eq, decide_eq_true_eq, decide_eq_false_iff_not, Int.not_lt, Int.not_le] at hg; omega)) (fun hg => by simp only [Bool.true_and, Bool.and_eq_true, beq_iff_eq, decide_eq_true_eq, decide_eq_false_iff_not, Int.not_lt, Int.not_le] at hg; omega)) ?_
  refine sg rfl (y_loadT rfl rfl hl (fun _ => rfl) (fun hg => hn (by simp only [Bool.true_and, Bool.and_eq_true, beq_iff_eq, decide_eq_true_eq, decide_eq_false_iff_not, Int.not_lt, Int.not_le] at hg; omega)) Tryz.underlying242 rfl sz242) ?_
  refine sg rfl (y_move rfl rfl) ?_
  refine sg rfl (y_call rfl rfl rfl cf217 (fun _ w _ => rowAt1_any m x w)) ?_
  refine sg rfl (y_bin rfl rfl rfl (fun _ => b_eql)) ?_
  refine s1 (y_and rfl rfl rfl) ?_
  refine sr 2 ?_
  refine sgo ?_
  refine tr2 hRb fun w hM => ?_
  have e := rowsBefore_of (x := x) l i (by omega) hp3 (fun a ha => hp4 i a (by omega) ha)
  exact ⟨by rw [e, ← found_dec hlen hn]; simp, hM.below⟩
end Go.Proofs.YtgbldojgbpgjbaaGreatDoor.Sy
end
section
namespace Go.Proofs.YtgbldojgbpgjbaaGreatDoor.Sy
set_option linter.unusedSimpArgs false
set_option linter.unusedVariables false
set_option maxRecDepth 20000
open Go.RowKit Go.Eng
theorem rows_right {size nf : Int} : ∀ (l : List SRow) (last : Int), rowsNo size nf l last = 0 → (∀ (i : Nat) (r : SRow), l[i]? = some r → rowBad size nf r = false ∧ (r.fi = -1 ↔ r.ln = 0) ∧ last < r.pos) ∧ Rising l
  | [], last, _ => ⟨fun i r h => by simp at h, fun i j a b h => by simp at h⟩
  | r :: rest, last, h => by
    unfold rowsNo at h
    split at h
    · cases h
    rename_i h1
    split at h
    · cases h
    rename_i h2
    split at h
    · cases h
    rename_i h3
    obtain ⟨ih1, ih2⟩ := rows_right rest r.pos h
    have h2' : (r.fi = -1 ↔ r.ln = 0) := by
      by_cases ha : r.fi = -1 <;> by_cases hb : r.ln = 0 <;> simp_all
    refine ⟨fun i a ha => ?_, fun i j a b ha hb hij => ?_⟩
    · cases i with
      | zero => simp at ha; subst ha; exact ⟨by simpa using h1, h2', by omega⟩
      | succ i =>
        obtain ⟨x1, x2, x3⟩ := ih1 i a (by simpa using ha)
        exact ⟨x1, x2, by omega⟩
    · cases j with
      | zero => omega
      | succ j =>
        cases i with
        | zero => simp at ha; subst ha; exact (ih1 j b (by simpa using hb)).2.2
        | succ i => exact ih2 i j a b (by simpa using ha) (by simpa using hb) (by omega)
theorem tab_rows {t : Tab} (h : tabNo t = 0) : rowsNo t.size t.fi.q t.ro.l (-1) = 0 := by
  unfold tabNo at h
  split at h
  · cases h
  split at h
  · cases h
  obtain ⟨_, h⟩ := fst_zero h
  obtain ⟨_, h⟩ := fst_zero h
  obtain ⟨c, _⟩ := fst_zero h
  exact (le_of_ite c).2
/-- the last row that begins at x or before it -/
def atRow (x : Int) : List SRow → Option SRow → Option SRow
  | [], o => o
  | r :: rest, o => if x < r.pos then o else atRow x rest (some r)
end Go.Proofs.YtgbldojgbpgjbaaGreatDoor.Sy
end
section
namespace Go.Proofs.YtgbldojgbpgjbaaGreatDoor.Sy
set_option linter.unusedSimpArgs false
set_option linter.unusedVariables false
set_option maxRecDepth 20000
open Go.RowKit Go.Eng
theorem atRow_of {x : Int} : ∀ (l : List SRow) (o : Option SRow) (n : Nat), n ≤ l.length → (∀ i a, i < n → l[i]? = some a → a.pos ≤ x) → (∀ a, l[n]? = some a → x < a.pos) → atRow x l o = if n = 0 then o else l[n - 1]?
  | [], o, n, h, _, _ => by simp at h; simp [atRow, h]
  | r :: rest, o, 0, _, _, h2 => by simp only [atRow]; rw [if_pos (h2 r rfl)]; rfl
  | r :: rest, o, n + 1, h, h1, h2 => by
    simp only [atRow]
    have := h1 0 r (by omega) rfl
    rw [if_neg (by omega), atRow_of rest (some r) n (by simpa using h) (fun i a hi ha => h1 (i + 1) a (by omega) (by simpa using ha)) (fun a ha => h2 a (by simpa using ha))]
    cases n with
    | zero => simp
    | succ n => simp
def lineFile (files : List (List UInt8)) : Option SRow → List UInt8
  | none => []
  | some r => if r.fi < 0 then [] else files.getD r.fi.toNat []
def lineLine : Option SRow → Int
  | none => 0
  | some r => if r.fi < 0 then 0 else r.ln
theorem before_le (x : Int) : ∀ l : List SRow, rowsBefore x l ≤ l.length
  | [] => Nat.le_refl _
  | r :: rest => by
    simp only [rowsBefore, List.length_cons]
    split
    · have := before_le x rest; omega
    · omega
theorem before_lt (x : Int) : ∀ (l : List SRow) (i : Nat) (a : SRow), i < rowsBefore x l → l[i]? = some a → a.pos < x
  | [], i, a, h, _ => by simp [rowsBefore] at h
  | r :: rest, i, a, h, ha => by
    simp only [rowsBefore] at h
    split at h
    · cases i with
      | zero => simp at ha; subst ha; assumption
      | succ i => exact before_lt x rest i a (by omega) (by simpa using ha)
    · omega
theorem before_ge (x : Int) : ∀ (l : List SRow) (a : SRow), l[rowsBefore x l]? = some a → x ≤ a.pos
  | [], a, h => by simp at h
  | r :: rest, a, h => by
    simp only [rowsBefore] at h
    split at h
    · exact before_ge x rest a (by simpa using h)
    · simp at h; subst h; omega
/-- where the search finds x itself -/
theorem atRow_hit {x : Int} {l : List SRow} {r : SRow} (hr : Rising l) (h : l[rowsBefore x l]? = some r) (hx : r.pos = x) : atRow x l none = some r := by
  have hn := (List.getElem?_eq_some_iff.1 h).1
  rw [atRow_of l none (rowsBefore x l + 1) (by omega) (fun i a hi ha => by
    have := rise_left hr h (x := x + 1) (by omega) i a hi ha
    omega) (fun a ha => by have := hr _ _ r a h ha (by omega); omega)]
  rw [if_neg (by omega)]; exact h
/-- where it does not -/
theorem atRow_miss {x : Int} {l : List SRow} (h : ¬ ∃ r, l[rowsBefore x l]? = some r ∧ r.pos = x) : atRow x l none = if rowsBefore x l = 0 then none else l[rowsBefore x l - 1]? := by
  refine atRow_of l none _ (before_le x l) (fun i a hi ha => by have := before_lt x l i a hi ha; omega) fun a ha => ?_
  have := before_ge x l a ha
  have : a.pos ≠ x := fun e => h ⟨a, ha, e⟩
  omega
theorem fi_of_row {size nf : Int} {r : SRow} (h : rowBad size nf r = false) : -1 ≤ r.fi ∧ r.fi ≤ nf - 1 := by
  simp only [rowBad, outB, Bool.or_eq_false_iff, decide_eq_false_iff_not] at h; omega
theorem get_file {l : List (List UInt8)} {i : Nat} (h : i < l.length) : l[i]? = some (l.getD i []) := by simp [List.getD, h]
theorem rowAt_any (t : Tab) (x : Int) (w : World) (hok : t.Ok w) (h0 : tabNo t = 0) :
    Calls Tryz.prog 162 #[.agg #[str t.id, .int .i64 t.size, .slice t.fi.A t.fi.q t.fi.c, .slice t.fu.A t.fu.q t.fu.c, .slice t.ro.A t.ro.q t.ro.c, .slice t.ca.A t.ca.q t.ca.c], .int .i64 x] w fun e w' => e = .returned (.tuple #[str (lineFile t.fi.l (atRow x t.ro.l none)), .int .i64 (lineLine (atRow x t.ro.l none))]) ∧ Below w.heap.size w w' := by
  have hq := hok.small
  have ht := hok.ro.t
  have hf := hok.fi.t
  have hlen := ht.len
  have hlf := hf.len
  obtain ⟨hall, hrise⟩ := rows_right _ _ (tab_rows h0)
  obtain ⟨n, hn⟩ : ∃ n, rowsBefore x t.ro.l = n := ⟨_, rfl⟩
  have hnq := before_le x t.ro.l
  refine enter_args (args := [.agg #[str t.id, .int .i64 t.size, .slice t.fi.A t.fi.q t.fi.c, .slice t.fu.A t.fu.q t.fu.c, .slice t.ro.A t.ro.q t.ro.c, .slice t.ca.A t.ca.q t.ca.c], .int .i64 x]) (F := _) Tryz.func162 rfl Tryz.ntmps162 rfl rfl ?_
  intro Rb hRb hRn
  refine tx ?_
  refine S_box 2 2 rfl rfl rfl rfl rfl ?_
  intro b2
  refine sr 2 ?_
  refine sgx ?_
  refine s1 (yF fa119_4) ?_
  refine s1 (yL 2 Tryz.underlying116) ?_
  refine sr 1 ?_
  refine s1 (y_call rfl rfl rfl cf216 (fun _ w hM => BSearch_any _ _ _ _ x w (ht.below hM.below) (by omega) hrise)) ?_
  refine sr 5 ?_
  refine sgs ?_
  refine tx ?_
  refine sr 2 ?_
  refine sgo ?_
  refine T_cond rfl ?_ ?_ <;> intro h16
  · try simp only [nrm] at h16
    have hat := atRow_miss h16
    rw [hn] at hat
    obtain ⟨kk, hkk⟩ : ∃ kk, kk = n - 1 := ⟨_, rfl⟩
    obtain ⟨r, hrow⟩ : ∃ r : SRow, 0 < n → t.ro.l[kk]? = some r := by
      by_cases hz : 0 < n
      · exact ⟨t.ro.l[kk], fun _ => by simp⟩
      · exact ⟨row0, fun h => absurd h hz⟩
    refine T_region ?_
    refine sr 1 ?_
    refine s1 (y_bin rfl rfl rfl (fun hg => b_sub (by omega))) ?_
    refine sr 1 ?_
    refine sgs ?_
    refine tx ?_
    refine sr 3 ?_
    refine sg rfl (yF fa119_4) ?_
    refine sg rfl (yL 2 Tryz.underlying116) ?_
    refine sg rfl (y_move rfl rfl) ?_
    refine sg rfl (y_indexAddrI (j := kk) rfl rfl rfl (fun hg => by simp only [Bool.true_and, Bool.and_eq_true, beq_iff_eq, decide_eq_true_eq, decide_eq_false_iff_not, Int.not_lt, Int.not_le] at hg; omega) Tryz.underlying116 sz242 (fun hg => ht.isSome (by simp only [Bool.true_and, Bool.and_eq_true, beq_iff_eq, decide_eq_true_eq, decide_eq_false_iff_not, Int.not_lt, Int.not_le] at hg; omega)) (fun hg => by simp only [Bool.true_and, Bool.and_eq_true, beq_iff_eq, decide_eq_true_eq, decide_eq_false_iff_not, Int.not_lt, Int.not_le] at hg; omega)) ?_
    refine sg rfl (y_fieldEl rfl rfl ht.rd (fun hg => by simp only [Bool.true_and, Bool.and_eq_true, beq_iff_eq, decide_eq_true_eq, decide_eq_false_iff_not, Int.not_lt, Int.not_le] at hg; omega) fa242_1) ?_
    refine sg rfl (y_load_fT rfl rfl ht (fun _ => rfl) (fun hg => hrow (by simp only [Bool.true_and, Bool.and_eq_true, beq_iff_eq, decide_eq_true_eq, decide_eq_false_iff_not, Int.not_lt, Int.not_le] at hg; omega)) rfl Tryz.underlying3 rfl) ?_
    refine sg rfl (y_bin rfl rfl rfl (fun _ => b_lss)) ?_
    refine s1 (y_or rfl rfl rfl) ?_
    refine sgo ?_
    refine T_cond rfl ?_ ?_ <;> intro h29
    · try simp only [nrm] at h29
      refine tx ?_
      refine sr 2 ?_
      refine sgo ?_
      refine tr2 hRb fun w hM => ?_
      by_cases hz : n = 0
      · exact ⟨by rw [hat, if_pos hz]; rfl, hM.below⟩
      · have hlt : r.fi < 0 := by omega
        exact ⟨by rw [hat, if_neg hz, ← hkk, hrow (by omega)]; simp [lineFile, lineLine, hlt], hM.below⟩
    try simp only [nrm] at h29
    have hrr := hrow (by omega)
    obtain ⟨hb1, _, _⟩ := hall kk r hrr
    have hfi := fi_of_row hb1
    have hfile := get_file (l := t.fi.l) (i := r.fi.toNat) (by omega)
    refine kgs ?_
    refine T_draws (by kernel_rfl) (by kernel_rfl) ?_
    refine d1 (yF fa119_2) ?_
    refine d1 (yL 2 Tryz.underlying53) ?_
    refine d1 (yF fa119_4) ?_
    refine d1 (yL 2 Tryz.underlying116) ?_
    refine d1 (y_move rfl rfl) ?_
    refine d1 (y_indexAddrI (j := kk) rfl rfl rfl (fun _ => by omega) Tryz.underlying116 sz242 (fun hg => ht.isSome (by omega)) (fun _ => by omega)) ?_
    refine d1 (y_fieldEl rfl rfl ht.rd (fun _ => by omega) fa242_1) ?_
    refine d1 (y_load_fT rfl rfl ht (fun _ => rfl) (fun _ => hrow (by omega)) rfl Tryz.underlying3 rfl) ?_
    refine d1 (y_indexAddrI (j := r.fi.toNat) rfl rfl rfl (fun _ => by omega) Tryz.underlying53 sz9 (fun hg => hf.isSome (by omega)) (fun _ => by omega)) ?_
    refine d1 (y_loadT1 (val := (fun l : List UInt8 => str l)) rfl rfl hf (fun _ => hfile) Tryz.underlying9 rfl) ?_
    refine d1 (yF fa119_4) ?_
    refine d1 (yL 2 Tryz.underlying116) ?_
    refine d1 (y_move rfl rfl) ?_
    refine d1 (y_indexAddrI (j := kk) rfl rfl rfl (fun _ => by omega) Tryz.underlying116 sz242 (fun hg => ht.isSome (by omega)) (fun _ => by omega)) ?_
    refine d1 (y_fieldEl rfl rfl ht.rd (fun _ => by omega) fa242_2) ?_
    refine d1 (y_load_fT rfl rfl ht (fun _ => rfl) (fun _ => hrow (by omega)) rfl Tryz.underlying3 rfl) ?_
    refine d1 (y_assign rfl rfl) ?_
    refine d1 (y_assign rfl rfl) ?_
    refine dgo ?_
    refine tr2 hRb fun w hM => ?_
    have hng : ¬ r.fi < 0 := by omega
    exact ⟨by rw [hat, if_neg (by omega), ← hkk, hrr]; simp only [lineFile, lineLine, if_neg hng], hM.below⟩
  try simp only [nrm] at h16
  obtain ⟨r, hr1, hr2⟩ := h16
  have hat := atRow_hit hrise hr1 hr2
  rw [hn] at hr1
  have hlt := (List.getElem?_eq_some_iff.1 hr1).1
  obtain ⟨kk, hkk⟩ : ∃ kk, kk = n := ⟨_, rfl⟩
  have hrow : 0 < n + 1 → t.ro.l[kk]? = some r := fun _ => hkk ▸ hr1
  refine kgs ?_
  refine tx ?_
  refine sr 3 ?_
  refine sg rfl (yF fa119_4) ?_
  refine sg rfl (yL 2 Tryz.underlying116) ?_
  refine sg rfl (y_move rfl rfl) ?_
  refine sg rfl (y_indexAddrI (j := kk) rfl rfl rfl (fun hg => by simp only [Bool.true_and, Bool.and_eq_true, beq_iff_eq, decide_eq_true_eq, decide_eq_false_iff_not, Int.not_lt, Int.not_le] at hg; omega) Tryz.underlying116 sz242 (fun hg => ht.isSome (by simp only [Bool.true_and, Bool.and_eq_true, beq_iff_eq, decide_eq_true_eq, decide_eq_false_iff_not, Int.not_lt, Int.not_le] at hg; omega)) (fun hg => by simp only [Bool.true_and, Bool.and_eq_true, beq_iff_eq, decide_eq_true_eq, decide_eq_false_iff_not, Int.not_lt, Int.not_le] at hg; omega)) ?_
  refine sg rfl (y_fieldEl rfl rfl ht.rd (fun hg => by simp only [Bool.true_and, Bool.and_eq_true, beq_iff_eq, decide_eq_true_eq, decide_eq_false_iff_not, Int.not_lt, Int.not_le] at hg; omega) fa242_1) ?_
  refine sg rfl (y_load_fT rfl rfl ht (fun _ => rfl) (fun hg => hrow (by simp only [Bool.true_and, Bool.and_eq_true, beq_iff_eq, decide_eq_true_eq, decide_eq_false_iff_not, Int.not_lt, Int.not_le] at hg; omega)) rfl Tryz.underlying3 rfl) ?_
  refine sg rfl (y_bin rfl rfl rfl (fun _ => b_lss)) ?_
  refine s1 (y_or rfl rfl rfl) ?_
  refine sgo ?_
  refine T_cond rfl ?_ ?_ <;> intro h29
  · try simp only [nrm] at h29
    refine tx ?_
    refine sr 2 ?_
    refine sgo ?_
    refine tr2 hRb fun w hM => ?_
    have hlt : r.fi < 0 := by omega
    exact ⟨by rw [hat]; simp [lineFile, lineLine, hlt], hM.below⟩
  try simp only [nrm] at h29
  have hrr := hrow (by omega)
  obtain ⟨hb1, _, _⟩ := hall kk r hrr
  have hfi := fi_of_row hb1
  have hfile := get_file (l := t.fi.l) (i := r.fi.toNat) (by omega)
  refine kgs ?_
  refine T_draws (by kernel_rfl) (by kernel_rfl) ?_
  refine d1 (yF fa119_2) ?_
  refine d1 (yL 2 Tryz.underlying53) ?_
  refine d1 (yF fa119_4) ?_
  refine d1 (yL 2 Tryz.underlying116) ?_
  refine d1 (y_move rfl rfl) ?_
  refine d1 (y_indexAddrI (j := kk) rfl rfl rfl (fun _ => by omega) Tryz.underlying116 sz242 (fun hg => ht.isSome (by omega)) (fun _ => by omega)) ?_
  refine d1 (y_fieldEl rfl rfl ht.rd (fun _ => by omega) fa242_1) ?_
  refine d1 (y_load_fT rfl rfl ht (fun _ => rfl) (fun _ => hrow (by omega)) rfl Tryz.underlying3 rfl) ?_
  refine d1 (y_indexAddrI (j := r.fi.toNat) rfl rfl rfl (fun _ => by omega) Tryz.underlying53 sz9 (fun hg => hf.isSome (by omega)) (fun _ => by omega)) ?_
  refine d1 (y_loadT1 (val := (fun l : List UInt8 => str l)) rfl rfl hf (fun _ => hfile) Tryz.underlying9 rfl) ?_
  refine d1 (yF fa119_4) ?_
  refine d1 (yL 2 Tryz.underlying116) ?_
  refine d1 (y_move rfl rfl) ?_
  refine d1 (y_indexAddrI (j := kk) rfl rfl rfl (fun _ => by omega) Tryz.underlying116 sz242 (fun hg => ht.isSome (by omega)) (fun _ => by omega)) ?_
  refine d1 (y_fieldEl rfl rfl ht.rd (fun _ => by omega) fa242_2) ?_
  refine d1 (y_load_fT rfl rfl ht (fun _ => rfl) (fun _ => hrow (by omega)) rfl Tryz.underlying3 rfl) ?_
  refine d1 (y_assign rfl rfl) ?_
  refine d1 (y_assign rfl rfl) ?_
  refine dgo ?_
  refine tr2 hRb fun w hM => ?_
  have hng : ¬ r.fi < 0 := by omega
  exact ⟨by rw [hat]; simp only [lineFile, lineLine, if_neg hng], hM.below⟩
end Go.Proofs.YtgbldojgbpgjbaaGreatDoor.Sy
end
section
namespace Go.Proofs.YtgbldojgbpgjbaaGreatDoor.Sy
set_option linter.unusedSimpArgs false
set_option linter.unusedVariables false
set_option maxRecDepth 20000
open Go.RowKit Go.Eng
structure SPlace where
  fn : List UInt8
  fi : List UInt8
  ln : Int
def SPlace.enc (p : SPlace) : List Value := [str p.fn, str p.fi, .int .i64 p.ln]
def SCall.has (x : Int) (c : SCall) : Bool := decide (c.fr ≤ x) && decide (x < c.tu)
/-- the places of the calls, the innermost (last) first; then the file and line where the outermost was called -/
def goPlaces (x : Int) (files : List (List UInt8)) : List SCall → List UInt8 → Int → List SPlace → List SPlace × List UInt8 × Int
  | [], file, line, out => (out, file, line)
  | c :: r, file, line, out => if c.has x = true then goPlaces x files r (files.getD c.fi.toNat []) c.ln (out ++ [⟨c.name, file, line⟩]) else goPlaces x files r file line out
def atOut (t : Tab) (x : Int) : List SPlace :=
  let n := findI (SFunc.has x) t.fu.l 0
  if n < 0 then [] else
    let p := goPlaces x t.fi.l t.ca.l.reverse (lineFile t.fi.l (atRow x t.ro.l none)) (lineLine (atRow x t.ro.l none)) []
    p.1 ++ [⟨(t.fu.l.getD n.toNat ⟨[], 0, 0⟩).name, p.2.1, p.2.2⟩]
theorem calls_right {size nf : Int} {fu : List SFunc} : ∀ (l before : List SCall) (b : SCall), callsNo size nf fu before l b = 0 →
    (∀ (i : Nat) (c : SCall), l[i]? = some c → nameNo c.name = 0 ∧ callBad size nf c = false ∧ callNo fu (before ++ l.take i) c = 0)
  | [], _, _, _ => fun i c h => by simp at h
  | c :: r, before, b, h => by
    unfold callsNo at h
    split at h
    · rename_i h1; exact absurd h h1
    rename_i h1
    split at h
    · cases h
    rename_i h2
    split at h
    · cases h
    split at h
    · rename_i h4; exact absurd h h4
    rename_i h4
    intro i a ha
    cases i with
    | zero => simp at ha; subst ha; exact ⟨by simpa using h1, by simpa using h2, by simpa using h4⟩
    | succ i =>
      have := calls_right r (before ++ [c]) c h i a (by simpa using ha)
      simpa using this
theorem tab_calls {t : Tab} (h : tabNo t = 0) : callsNo t.size t.fi.q t.fu.l [] t.ca.l call0 = 0 := by
  unfold tabNo at h
  split at h
  · cases h
  split at h
  · cases h
  obtain ⟨_, h⟩ := fst_zero h
  obtain ⟨_, h⟩ := fst_zero h
  obtain ⟨_, d⟩ := fst_zero h
  exact (le_of_ite d).2
theorem take_rev {α : Type} {l : List α} {j : Nat} {x : α} (hj : 0 < j) (h : l[j - 1]? = some x) : (l.take j).reverse = x :: (l.take (j - 1)).reverse := by
  have e := take_succ_at h
  rw [show j - 1 + 1 = j by omega] at e
  rw [e, List.reverse_append]; rfl
theorem fi_of_call {size nf : Int} {c : SCall} (h : callBad size nf c = false) : 0 ≤ c.fi ∧ c.fi ≤ nf - 1 := by
  simp only [callBad, outB, Bool.or_eq_false_iff, decide_eq_false_iff_not] at h; omega
theorem findI_at {α : Type} {p : α → Bool} : ∀ (l : List α) (i : Int), 0 ≤ i → 0 ≤ findI p l i → ∃ (n : Nat) (a : α), findI p l i = i + n ∧ l[n]? = some a ∧ p a = true
  | [], i, _, h => by simp [findI] at h
  | a :: r, i, h0, h => by
    cases hp : p a
    · rw [findI_f hp] at h ⊢
      obtain ⟨n, b, h1, h2, h3⟩ := findI_at r (i + 1) (by omega) h
      exact ⟨n + 1, b, by rw [h1]; omega, by simpa using h2, h3⟩
    · exact ⟨0, a, by rw [findI_t hp]; simp, rfl, hp⟩
theorem at_any (t : Tab) (x : Int) (w : World) (hok : t.Ok w) (h0 : tabNo t = 0) :
    Calls Tryz.prog 70 #[.agg #[str t.id, .int .i64 t.size, .slice t.fi.A t.fi.q t.fi.c, .slice t.fu.A t.fu.q t.fu.c, .slice t.ro.A t.ro.q t.ro.c, .slice t.ca.A t.ca.q t.ca.c], .int .i64 x] w fun e w' => ∃ A c, e = .returned (.tuple #[.slice A (atOut t x).length c, .int .i64 (if findI (SFunc.has x) t.fu.l 0 < 0 then 7 else 0)]) ∧
      w'.ownsRow w.heap.size 68 3 (.slice A (atOut t x).length c) (atOut t x).length ((atOut t x).flatMap SPlace.enc) ∧ Below w.heap.size w w' := by
  have hq := hok.small
  have hr := rows_of h0
  have ht := hok.ca.t
  have hf := hok.fi.t
  have hlf := hf.len
  have hall := calls_right _ _ _ (tab_calls h0)
  refine enter_args (args := [.agg #[str t.id, .int .i64 t.size, .slice t.fi.A t.fi.q t.fi.c, .slice t.fu.A t.fu.q t.fu.c, .slice t.ro.A t.ro.q t.ro.c, .slice t.ca.A t.ca.q t.ca.c], .int .i64 x]) (F := _) Tryz.func70 rfl Tryz.ntmps70 rfl rfl ?_
  intro Rb hRb hRn
  refine tx ?_
  refine S_box 2 2 rfl rfl rfl rfl rfl ?_
  intro b2
  refine S_nilSlice 4 (e := 68) (size := 3) ?_
  refine sr 2 ?_
  refine sgx ?_
  refine s1 (yA 2 rfl Tryz.underlying119 sz119) ?_
  refine sr 1 ?_
  refine s1 (y_call rfl rfl rfl cf161 (fun _ w hM => FuncAt_any t x w (hok.below hM.below))) ?_
  refine sr 5 ?_
  refine sgs ?_
  refine tx ?_
  refine sr 2 ?_
  refine sgo ?_
  refine T_cond rfl ?_ ?_ <;> intro h20
  · try simp only [nrm] at h20
    refine tx ?_
    refine S_nilSlice 4 (e := 68) (size := 3) ?_
    refine sr 2 ?_
    refine sgo ?_
    refine tr2 hRb fun w hM => ?_
    have e : atOut t x = [] := by rw [atOut]; exact if_pos h20
    rw [e, if_pos h20]
    exact ⟨none, 0, rfl, hM.sat 4 _ rfl, hM.below⟩
  try simp only [nrm] at h20
  obtain ⟨n, fn, hfi0, hfn, _⟩ := findI_at t.fu.l 0 (by omega) (by omega)
  have hnl := (List.getElem?_eq_some_iff.1 hfn).1
  have hfl := hok.fu.t.len
  refine kgx ?_
  refine s1 (yA 2 rfl Tryz.underlying119 sz119) ?_
  refine sr 1 ?_
  refine s1 (y_call rfl rfl rfl cf162 (fun _ w hM => rowAt_any t x w (hok.below hM.below) h0)) ?_
  refine sr 5 ?_
  refine sgx ?_
  refine S_nilSlice 10 (e := 68) (size := 3) ?_
  refine sr 1 ?_
  refine sgs ?_
  refine tx ?_
  refine s1 (yF fa119_5) ?_
  refine s1 (yL 2 Tryz.underlying117) ?_
  refine s1 (y_len_slice rfl rfl Tryz.underlying117) ?_
  refine s1 (y_bin rfl rfl rfl (fun hg => b_sub (by omega))) ?_
  refine sr 1 ?_
  refine sgo ?_
  refine T_block ?_
  refine lK6 (kf := [(8, 12), (31, 65)]) (kl := [(8, 12), (31, 65)]) (fun (j : Nat) (out : List SPlace) (q : Nat) (A : Option Addr) (c : Nat) (fl : List UInt8 × Int) => [(11, true, .int .i64 ((j : Int) - 1)), (10, true, .slice A q c), (8, true, str fl.1), (9, true, .int .i64 fl.2)]) (fun (j : Nat) (out : List SPlace) (q : Nat) (A : Option Addr) (c : Nat) (fl : List UInt8 × Int) => [(10, .own 68 3 (.slice A q c) q (out.flatMap SPlace.enc))]) (fun (j : Nat) (out : List SPlace) (q : Nat) (A : Option Addr) (c : Nat) (fl : List UInt8 × Int) => j ≤ t.ca.q ∧ q + j ≤ t.ca.q ∧ out.length = q ∧ goPlaces x t.fi.l t.ca.l.reverse (lineFile t.fi.l (atRow x t.ro.l none)) (lineLine (atRow x t.ro.l none)) [] = goPlaces x t.fi.l (t.ca.l.take j).reverse fl.1 fl.2 out) (fun (j : Nat) (out : List SPlace) (q : Nat) (A : Option Addr) (c : Nat) (fl : List UInt8 × Int) => j) t.ca.q [] 0 none 0 (lineFile t.fi.l (atRow x t.ro.l none), lineLine (atRow x t.ro.l none)) ?_ ?_ ?_ ?_
  · exact ⟨by omega, by omega, rfl, by rw [← ht.len, List.take_length]⟩
  · exact ⟨rfl, rfl, rfl, rfl, trivial⟩
  · exact ⟨rfl, trivial⟩
  rintro j out q A c fl ⟨hp1, hp2, hp3, hp4⟩
  refine T_seq ?_
  refine tx ?_
  refine sr 2 ?_
  refine sgo ?_
  refine T_cond rfl ?_ ?_ <;> intro h32
  · try simp only [nrm] at h32
    obtain ⟨c0, hx1, _⟩ := ht.at (i := j - 1) (by omega)
    obtain ⟨_, hb, _⟩ := hall (j - 1) c0 hx1
    have hfi := fi_of_call hb
    have hfile := get_file (l := t.fi.l) (i := c0.fi.toNat) (by omega)
    refine kgs ?_
    refine T_block ?_
    refine tx ?_
    refine s1 (yF fa119_5) ?_
    refine s1 (yL 2 Tryz.underlying117) ?_
    refine sr 1 ?_
    refine s1 (y_indexAddrI (j := j - 1) rfl rfl rfl (fun _ => by omega) Tryz.underlying117 sz191 (fun hg => ht.isSome (by omega)) (fun _ => by omega)) ?_
    refine s1 (y_loadT rfl rfl ht (fun _ => rfl) (fun _ => hx1) Tryz.underlying191 rfl sz191) ?_
    refine S_alloc 12 12 rfl rfl rfl rfl z191 ?_
    intro b12
    refine S_store 12 rfl rfl rfl rfl rfl rfl sz191 rfl rfl ?_
    refine sgx ?_
    refine s1 (yF fa191_1) ?_
    refine s1 (yL 12 Tryz.underlying3) ?_
    refine sr 3 ?_
    refine sg rfl (y_move rfl rfl) ?_
    refine sg rfl (yF fa191_2) ?_
    refine sg rfl (yL 12 Tryz.underlying3) ?_
    refine sg rfl (y_bin rfl rfl rfl (fun _ => b_lss)) ?_
    refine s1 (y_as (v' := .bool (c0.has x)) (by exact rfl) (y_and rfl rfl rfl)) ?_
    refine sgo ?_
    refine T_cond rfl ?_ ?_ <;> intro h49
    · skip
      refine tx ?_
      refine sr 1 ?_
      refine s1 (yF fa191_0) ?_
      refine s1 (yL 12 Tryz.underlying9) ?_
      refine sr 2 ?_
      refine s1 (y_build (zv := .agg #[.string ⟨#[]⟩, .string ⟨#[]⟩, .int .i64 0]) (pl := [(0, 1), (1, 1), (2, 1)]) (out := [_, _, _]) rfl rfl Tryz.underlying68 z68 (by kernel_rfl) rfl) ?_
      refine S_buildSlice 56 56 rfl rfl rfl rfl rfl Tryz.underlying64 inf68 rfl (by decide) (by decide) rfl rfl (by decide) rfl (_) rfl ?_
      intro b56
      obtain ⟨i57, hi57, hz57, hs57, hy57⟩ := info_parts inf68
      refine S_append 57 10 56 rfl rfl rfl rfl rfl rfl rfl rfl Tryz.underlying64 hi57 hz57 hs57 hy57 rfl (by decide) (by decide) rfl ?_ ?_ (q + 1) ((out ++ [(⟨c0.name, fl.1, fl.2⟩ : SPlace)]).flatMap SPlace.enc) ?_ ?_ ?_
      · (simp only [maxLen]; omega)
      · omega
      · rfl
      · simp [List.flatMap_append, SPlace.enc]; rfl
      intro A57 c57
      refine sr 1 ?_
      refine sgo ?_
      refine T_draws (by kernel_rfl) (by kernel_rfl) ?_
      refine d1 (yF fa119_2) ?_
      refine d1 (yL 2 Tryz.underlying53) ?_
      refine d1 (yF fa191_3) ?_
      refine d1 (yL 12 Tryz.underlying3) ?_
      refine d1 (y_indexAddrI (j := c0.fi.toNat) rfl rfl rfl (fun _ => by omega) Tryz.underlying53 sz9 (fun hg => hf.isSome (by omega)) (fun _ => by omega)) ?_
      refine d1 (y_loadT1 (val := (fun l : List UInt8 => str l)) rfl rfl hf (fun _ => hfile) Tryz.underlying9 rfl) ?_
      refine d1 (yF fa191_4) ?_
      refine d1 (yL 12 Tryz.underlying3) ?_
      refine d1 (y_assign rfl rfl) ?_
      refine d1 (y_assign rfl rfl) ?_
      refine dgr ?_
      refine sr 1 ?_
      refine s1 (y_bin rfl rfl rfl (fun hg => b_subv (((j - 1 : Nat) : Int) - 1) (by omega) (by omega))) ?_
      refine sr 1 ?_
      refine S_nil (nK6 (kf := [(8, 12), (31, 65)]) (kl := [(8, 12), (31, 65)]) (j - 1) (out ++ [(⟨c0.name, fl.1, fl.2⟩ : SPlace)]) (q + 1) A57 c57 (t.fi.l.getD c0.fi.toNat [], c0.ln) ?_ ?_ ?_ ?_)
      · omega
      · exact ⟨by omega, by omega, by simp [hp3], by rw [hp4, take_rev (by omega) hx1, goPlaces, if_t h49]⟩
      · exact ⟨rfl, rfl, rfl, rfl, trivial⟩
      · exact ⟨rfl, trivial⟩
    refine kgr ?_
    refine sr 1 ?_
    refine s1 (y_bin rfl rfl rfl (fun hg => b_subv (((j - 1 : Nat) : Int) - 1) (by omega) (by omega))) ?_
    refine sr 1 ?_
    refine S_nil (nK6 (kf := [(8, 12), (31, 65)]) (kl := [(8, 12), (31, 65)]) (j - 1) out q A c fl ?_ ?_ ?_ ?_)
    · omega
    · exact ⟨by omega, by omega, hp3, by rw [hp4, take_rev (by omega) hx1, goPlaces, if_f h49]⟩
    · exact ⟨rfl, rfl, rfl, rfl, trivial⟩
    · exact ⟨rfl, trivial⟩
  try simp only [nrm] at h32
  refine egx ?_
  refine sr 1 ?_
  refine s1 (yF fa119_3) ?_
  refine s1 (yL 2 Tryz.underlying115) ?_
  refine sr 1 ?_
  refine s1 (y_indexAddrI (j := n) rfl rfl rfl (fun _ => by omega) Tryz.underlying115 sz193 (fun hg => hok.fu.t.isSome (by omega)) (fun _ => by omega)) ?_
  refine s1 (y_fieldEl rfl rfl hok.fu.t.rd (fun _ => by omega) fa193_0) ?_
  refine s1 (y_load_fT rfl rfl hok.fu.t (fun _ => rfl) (fun _ => hfn) rfl Tryz.underlying9 rfl) ?_
  refine sr 2 ?_
  refine s1 (y_build (zv := .agg #[.string ⟨#[]⟩, .string ⟨#[]⟩, .int .i64 0]) (pl := [(0, 1), (1, 1), (2, 1)]) (out := [_, _, _]) rfl rfl Tryz.underlying68 z68 (by kernel_rfl) rfl) ?_
  refine S_buildSlice 76 76 rfl rfl rfl rfl rfl Tryz.underlying64 inf68 rfl (by decide) (by decide) rfl rfl (by decide) rfl (_) rfl ?_
  intro b76
  obtain ⟨i77, hi77, hz77, hs77, hy77⟩ := info_parts inf68
  refine S_append 77 10 76 rfl rfl rfl rfl rfl rfl rfl rfl Tryz.underlying64 hi77 hz77 hs77 hy77 rfl (by decide) (by decide) rfl ?_ ?_ (q + 1) ((out ++ [(⟨fn.name, fl.1, fl.2⟩ : SPlace)]).flatMap SPlace.enc) ?_ ?_ ?_
  · (simp only [maxLen]; omega)
  · omega
  · rfl
  · simp [List.flatMap_append, SPlace.enc]; rfl
  intro A77 c77
  refine sr 2 ?_
  refine sgo ?_
  refine tr2 hRb fun w hM => ?_
  have hz : j = 0 := by omega
  subst hz
  have e : atOut t x = out ++ [(⟨fn.name, fl.1, fl.2⟩ : SPlace)] := by
    unfold atOut
    simp only [if_neg (show ¬ findI (SFunc.has x) t.fu.l 0 < 0 by omega), hp4]
    rw [hfi0]
    simp [goPlaces, List.getD, hfn]
  have e2 : (out ++ [(⟨fn.name, fl.1, fl.2⟩ : SPlace)]).length = q + 1 := by simp [hp3]
  rw [e, e2, if_neg (by omega)]
  exact ⟨A77, c77, rfl, hM.sat 10 _ rfl, hM.below⟩
end Go.Proofs.YtgbldojgbpgjbaaGreatDoor.Sy
end
section
namespace Go.Proofs.YtgbldojgbpgjbaaGreatDoor.Sy
set_option linter.unusedSimpArgs false
set_option linter.unusedVariables false
set_option maxRecDepth 20000
open Go.RowKit Go.Eng
end Go.Proofs.YtgbldojgbpgjbaaGreatDoor.Sy
end
section
namespace Go.Proofs.YtgbldojgbpgjbaaGreatDoor.Sy
set_option linter.unusedSimpArgs false
set_option linter.unusedVariables false
set_option maxRecDepth 20000
open Go.RowKit Go.Eng
end Go.Proofs.YtgbldojgbpgjbaaGreatDoor.Sy
end
section
namespace Go.Proofs.YtgbldojgbpgjbaaGreatDoor.Sy
set_option linter.unusedSimpArgs false
set_option linter.unusedVariables false
set_option maxRecDepth 20000
open Go.RowKit Go.Eng
structure TabsOk (w : World) (l : Sl Tab) : Prop where
  ok : l.Ok Tab.enc 6 w
  q : l.q ≤ 4611686018427387904
  n : ∀ t ∈ l.l, t.Ok w
theorem TabsOk.below {w w' : World} {l : Sl Tab} (h : TabsOk w l) (hb : Below w.heap.size w w') : TabsOk w' l := ⟨h.ok.below hb, h.q, fun t ht => (h.n t ht).below hb⟩
structure ModsOk (w : World) (l : Sl SMod) : Prop where
  ok : l.Ok SMod.enc 4 w
  q : l.q ≤ 4611686018427387904
  n : ∀ m ∈ l.l, m.name.length ≤ 4611686018427387904 ∧ m.id.length ≤ 4611686018427387904
theorem ModsOk.below {w w' : World} {l : Sl SMod} (h : ModsOk w l) (hb : Below w.heap.size w w') : ModsOk w' l := ⟨h.ok.below hb, h.q, h.n⟩
def tabsNo : List (List UInt8) → List Tab → Int
  | _, [] => 0
  | seen, t :: r => if tabNo t ≠ 0 then tabNo t else if t.id ∈ seen then 6 else tabsNo (seen ++ [t.id]) r
def modulesNo (l : Sl SMod) : Int := if (100 : Int) < l.q then 4 else modsNo l.l 0
def allNo (fs : Sl Frm) (ms : Sl SMod) (ts : Sl Tab) : Int := fst (framesNo fs) (fst (modulesNo ms) (if (100 : Int) < ts.q then 4 else tabsNo [] ts.l))
theorem tabs_right : ∀ (l : List Tab) (seen : List (List UInt8)), tabsNo seen l = 0 → ∀ t ∈ l, tabNo t = 0
  | [], _, _ => fun t h => by cases h
  | a :: r, seen, h => by
    unfold tabsNo at h
    split at h
    · rename_i h1; exact absurd h h1
    rename_i h1
    split at h
    · cases h
    intro t ht
    rcases List.mem_cons.1 ht with rfl | ht
    · simpa using h1
    · exact tabs_right r _ h t ht
theorem mods_right : ∀ (l : List SMod) (last : Int), modsNo l last = 0 → ∀ m ∈ l, 0 ≤ m.fr ∧ m.fr < m.tu ∧ m.tu ≤ 281474976710656
  | [], _, _ => fun t h => by cases h
  | a :: r, last, h => by
    unfold modsNo at h
    split at h
    · cases h
    split at h
    · rename_i h1; exact absurd h h1
    split at h
    · cases h
    split at h
    · cases h
    split at h
    · cases h
    rename_i h5
    split at h
    · cases h
    intro t ht
    rcases List.mem_cons.1 ht with rfl | ht
    · simp only [outB, Bool.or_eq_true, decide_eq_true_eq, not_or] at h5; omega
    · exact mods_right r _ h t ht
theorem IndexFuncT_any (A : Option Addr) (q c : Nat) (l : List Tab) (g : FuncId) (cap : Array Value) (p : Tab → Bool) (w : World) (hl : SlT Tab.enc 6 w A q l) (hq : q ≤ 4611686018427387904) (hA : Asks Tryz.prog Tab.enc w g cap p) :
    Calls Tryz.prog 68 #[.slice A q c, .func (.func g) #[] cap] w fun e w' => e = .returned (.int .i64 (findI p l 0)) ∧ Below w.heap.size w w' := by
  refine enter_args (args := [.slice A q c, .func (.func g) #[] cap]) (F := _) Tryz.func68 rfl Tryz.ntmps68 rfl rfl ?_
  intro Rb hRb hRn
  refine tx ?_
  refine sr 1 ?_
  refine sgs ?_
  refine tx ?_
  refine sr 1 ?_
  refine s1 (y_len_slice rfl rfl Tryz.underlying28) ?_
  refine sr 1 ?_
  refine sgo ?_
  refine T_block ?_
  refine lK1 (kf := [(4, 5), (8, 18)]) (kl := [(4, 5), (8, 18)]) (fun (i : Nat) => [(8, true, .int .i64 (i : Int))]) (fun (i : Nat) => []) (fun (i : Nat) => i ≤ q ∧ findI p l 0 = findI p (l.drop i) i) (fun (i : Nat) => q - i) 0 ?_ ?_ ?_ ?_
  · exact ⟨by omega, rfl⟩
  · exact ⟨rfl, trivial⟩
  · exact trivial
  rintro i ⟨hp1, hp2⟩
  refine tx ?_
  refine sr 1 ?_
  refine sgs ?_
  refine T_cond rfl ?_ ?_ <;> intro h9
  · try simp only [nrm] at h9
    obtain ⟨x, hx1, hx2⟩ := hl.at (i := i) (by omega)
    refine kgs ?_
    refine T_block ?_
    refine tx ?_
    refine sr 2 ?_
    refine sgx ?_
    refine sr 3 ?_
    refine s1 (y_indexAddr rfl rfl rfl Tryz.underlying28 sz119 (fun hg => hl.isSome (by omega)) (fun _ => by omega)) ?_
    refine s1 (y_loadT rfl rfl hl (fun _ => rfl) (fun _ => hx1) Tryz.underlying119 rfl sz119) ?_
    refine s1 (y_call rfl rfl rfl hA.1 (fun _ w hM => hA.2 x w hM.below)) ?_
    refine sgo ?_
    refine T_cond rfl ?_ ?_ <;> intro h16
    · try simp only [nrm] at h16
      refine tx ?_
      refine sr 2 ?_
      refine sgo ?_
      refine tr1 hRb fun w hM => ?_
      exact ⟨by rw [hp2, hx2, findI_t h16], hM.below⟩
    try simp only [nrm] at h16
    refine kgr ?_
    refine s1 (y_bin rfl rfl rfl (fun hg => b_add (by omega))) ?_
    refine sr 1 ?_
    refine S_nil (nK1 (kf := [(4, 5), (8, 18)]) (kl := [(4, 5), (8, 18)]) (i + 1) ?_ ?_ ?_ ?_)
    · omega
    · exact ⟨by omega, by rw [hp2, hx2, findI_f h16]; rfl⟩
    · exact ⟨rfl, trivial⟩
    · exact trivial
  try simp only [nrm] at h9
  refine egx ?_
  refine sr 1 ?_
  refine sgo ?_
  refine tr1 hRb fun w hM => ?_
  exact ⟨by rw [hp2, hl.end (by omega)]; rfl, hM.below⟩
def Tab.hasId (s : List UInt8) (t : Tab) : Bool := decide (t.id = s)
theorem placesOf1_any (t : Tab) (a1 a2 : Addr) (ms : Sl SMod) (n : Nat) (m : SMod) (w : World) (hms : ms.Ok SMod.enc 4 w) (hm : ms.l[n]? = some m) (hb1 : a1.block < w.heap.size) (hb2 : a2.block < w.heap.size) (h1 : w.cell? a1 = some (.slice ms.A ms.q ms.c)) (h2 : w.cell? a2 = some (.int .i64 (n : Int))) :
    Calls Tryz.prog 69 #[.agg t.enc.toArray, .pointer (some a1), .pointer (some a2)] w fun e w' => e = .returned (.bool (t.hasId m.id)) ∧ Below w.heap.size w w' := by
  have ht := hms.t
  have hlen := ht.len
  have hnl := (List.getElem?_eq_some_iff.1 hm).1
  refine enter_args (args := [.agg #[str t.id, .int .i64 t.size, .slice t.fi.A t.fi.q t.fi.c, .slice t.fu.A t.fu.q t.fu.c, .slice t.ro.A t.ro.q t.ro.c, .slice t.ca.A t.ca.q t.ca.c], .pointer (some a1), .pointer (some a2)]) (F := _) Tryz.func69 rfl Tryz.ntmps69 rfl rfl ?_
  intro Rb hRb hRn
  refine tx ?_
  refine S_box 3 3 rfl rfl rfl rfl rfl ?_
  intro b3
  refine sr 1 ?_
  refine sgs ?_
  refine T_draws (by kernel_rfl) (by kernel_rfl) ?_
  refine d1 (yF fa119_0) ?_
  refine d1 (yL 3 Tryz.underlying9) ?_
  refine d1 (y_load_far rfl rfl h1 hb1 Tryz.underlying27 rfl) ?_
  refine d1 (y_load_far rfl rfl h2 hb2 Tryz.underlying3 rfl) ?_
  refine d1 (y_indexAddrI (j := n) rfl rfl rfl (fun _ => by omega) Tryz.underlying27 sz125 (fun hg => ht.isSome (by omega)) (fun _ => by omega)) ?_
  refine d1 (y_fieldEl rfl rfl ht.rd (fun _ => by omega) fa125_1) ?_
  refine d1 (y_load_fT rfl rfl ht (fun _ => rfl) (fun _ => hm) rfl Tryz.underlying9 rfl) ?_
  refine d1 (y_bin rfl rfl rfl (fun _ => b_eqls)) ?_
  refine d1 (y_assign rfl rfl) ?_
  refine dgo ?_
  refine tr1 hRb fun w hM => ?_
  exact ⟨rfl, hM.below⟩
theorem asks_placesOf {b1 b2 : Nat} {ms : Sl SMod} {n : Nat} {m : SMod} {w : World} (hms : ms.Ok SMod.enc 4 w) (hm : ms.l[n]? = some m) (h1 : w.cell? ⟨b1, 0, none⟩ = some (.slice ms.A ms.q ms.c) ∧ b1 < w.heap.size) (h2 : w.cell? ⟨b2, 0, none⟩ = some (.int .i64 (n : Int)) ∧ b2 < w.heap.size) :
    Asks Tryz.prog Tab.enc w 69 #[.pointer (some ⟨b1, 0, none⟩), .pointer (some ⟨b2, 0, none⟩)] (Tab.hasId m.id) :=
  ⟨cf69, fun t w' hb => placesOf1_any t ⟨b1, 0, none⟩ ⟨b2, 0, none⟩ ms n m w' (hms.below hb) hm (Nat.lt_of_lt_of_le h1.2 hb.size) (Nat.lt_of_lt_of_le h2.2 hb.size) ((hb.cell h1.2).trans h1.1) ((hb.cell h2.2).trans h2.1)⟩
theorem checkAll_any (fs : Sl Frm) (ms : Sl SMod) (ts : Sl Tab) (w : World) (hfs : FrmsOk w fs) (hms : ModsOk w ms) (hts : TabsOk w ts) :
    Calls Tryz.prog 27 #[.slice fs.A fs.q fs.c, .slice ms.A ms.q ms.c, .slice ts.A ts.q ts.c] w fun e w' => e = .returned (.int .i64 (allNo fs ms ts)) ∧ Below w.heap.size w w' := by
  have ht := hts.ok.t
  have hq := hts.q
  refine enter_args (args := [.slice fs.A fs.q fs.c, .slice ms.A ms.q ms.c, .slice ts.A ts.q ts.c]) (F := _) Tryz.func27 rfl Tryz.ntmps27 rfl rfl ?_
  intro Rb hRb hRn
  refine tx ?_
  refine sr 1 ?_
  refine sgs ?_
  refine tx ?_
  refine sr 1 ?_
  refine S_callM 17 [] (X := Value) rfl rfl rfl rfl rfl rfl rfl cf64 rfl (fun z => .tuple #[z, .int .i64 0, .int .i64 (framesNo fs)]) (fun _ => True) (fun _ => []) (fun _ => rfl) (fun _ => rfl) (fun K hK w hM => (Cut200_any fs w (hfs.below hM.below)).mono fun e w2 ⟨z, he, hb⟩ => ⟨z, he, trivial, hM.call hb⟩) ?_
  intro z _
  refine sr 7 ?_
  refine sgx ?_
  refine sr 2 ?_
  refine sgo ?_
  refine T_cond rfl ?_ ?_ <;> intro h22
  · try simp only [nrm] at h22
    refine tx ?_
    refine sr 2 ?_
    refine sgo ?_
    refine tr1 hRb fun w hM => ?_
    exact ⟨by rw [allNo, fst_a rfl h22]; rfl, hM.below⟩
  try simp only [nrm] at h22
  refine kgs ?_
  refine tx ?_
  refine sr 1 ?_
  refine s1 (y_call rfl rfl rfl cf65 (fun _ w hM => CheckModules_any ms w (hms.ok.below hM.below) hms.q hms.n)) ?_
  refine sr 1 ?_
  refine sgx ?_
  refine sr 2 ?_
  refine sgo ?_
  refine T_cond rfl ?_ ?_ <;> intro h27
  · try simp only [nrm] at h27
    refine tx ?_
    refine sr 2 ?_
    refine sgo ?_
    refine tr1 hRb fun w hM => ?_
    exact ⟨by rw [allNo, modulesNo, fst_b h22 (fst_a rfl h27)], hM.below⟩
  try simp only [nrm] at h27
  refine kgs ?_
  refine tx ?_
  refine sr 1 ?_
  refine s1 (y_len_slice rfl rfl Tryz.underlying28) ?_
  refine sr 1 ?_
  refine sgo ?_
  refine T_cond rfl ?_ ?_ <;> intro h31
  · try simp only [nrm] at h31
    refine tx ?_
    refine sr 1 ?_
    refine sgo ?_
    refine tr1 hRb fun w hM => ?_
    exact ⟨by rw [allNo, modulesNo, fst_b h22 (fst_b h27 (if_pos (by omega)))], hM.below⟩
  try simp only [nrm] at h31
  refine kgx ?_
  refine S_makeMap 32 32 (fun l : List UInt8 => str l) rfl rfl rfl rfl ?_
  intro b32
  refine sr 1 ?_
  refine sgs ?_
  refine tx ?_
  refine sr 1 ?_
  refine s1 (y_len_slice rfl rfl Tryz.underlying28) ?_
  refine sr 1 ?_
  refine sgo ?_
  refine T_block ?_
  refine lK1 (kf := [(6, 6), (13, 14), (35, 51)]) (kl := [(6, 6), (13, 14), (32, 32), (35, 51)]) (fun (i : Nat) => [(35, true, .int .i64 (i : Int))]) (fun (i : Nat) => [(32, .blk b32 (IsMap (fun l : List UInt8 => str l) (((ts.l.take i).map Tab.id).map fun s => (s, Value.bool true))))]) (fun (i : Nat) => i ≤ ts.q ∧ tabsNo [] ts.l = tabsNo ((ts.l.take i).map Tab.id) (ts.l.drop i)) (fun (i : Nat) => ts.q - i) 0 ?_ ?_ ?_ ?_
  · exact ⟨by omega, rfl⟩
  · exact ⟨rfl, trivial⟩
  · exact ⟨rfl, trivial⟩
  rintro i ⟨hp1, hp2⟩
  refine tx ?_
  refine sr 1 ?_
  refine sgs ?_
  refine T_cond rfl ?_ ?_ <;> intro h36
  · try simp only [nrm] at h36
    obtain ⟨t, hx1, hx2⟩ := ht.at (i := i) (by omega)
    refine kgs ?_
    refine T_block ?_
    refine tx ?_
    refine s1 (y_indexAddr rfl rfl rfl Tryz.underlying28 sz119 (fun hg => ht.isSome (by omega)) (fun _ => by omega)) ?_
    refine s1 (y_loadT rfl rfl ht (fun _ => rfl) (fun _ => hx1) Tryz.underlying119 rfl sz119) ?_
    refine S_alloc 13 13 rfl rfl rfl rfl z119 ?_
    intro b13
    refine S_store 13 rfl rfl rfl rfl rfl rfl sz119 rfl rfl ?_
    refine sgs ?_
    refine tx ?_
    refine s1 (yA 13 rfl Tryz.underlying119 sz119) ?_
    refine s1 (y_call rfl rfl rfl cf66 (fun _ w hM => CheckTable_any t w ((hts.n t (mem_at hx1)).below hM.below))) ?_
    refine sr 1 ?_
    refine sgx ?_
    refine sr 2 ?_
    refine sgo ?_
    refine T_cond rfl ?_ ?_ <;> intro h42
    · try simp only [nrm] at h42
      refine tx ?_
      refine sr 2 ?_
      refine sgo ?_
      refine tr1 hRb fun w hM => ?_
      exact ⟨by rw [allNo, modulesNo, fst_b h22 (fst_b h27 (if_neg (by omega))), hp2, hx2, tabsNo, if_pos h42], hM.below⟩
    try simp only [nrm] at h42
    refine kgs ?_
    refine tx ?_
    refine sr 1 ?_
    refine s1 (yF fa119_0) ?_
    refine s1 (yL 13 Tryz.underlying9) ?_
    refine s1 (y_as (v' := .bool (decide (t.id ∈ (ts.l.take i).map Tab.id))) (by exact mget_set t.id _) (y_lookup 32 (enc := fun l : List UInt8 => str l) rfl rfl rfl rfl Tryz.underlying114 Tryz.underlying9 rfl same_str z4)) ?_
    refine sgo ?_
    refine T_cond rfl ?_ ?_ <;> intro h47
    · try simp only [nrm] at h47
      refine tx ?_
      refine sr 1 ?_
      refine sgo ?_
      refine tr1 hRb fun w hM => ?_
      exact ⟨by rw [allNo, modulesNo, fst_b h22 (fst_b h27 (if_neg (by omega))), hp2, hx2, tabsNo, if_neg (by simpa using h42), if_pos h47], hM.below⟩
    try simp only [nrm] at h47
    refine kgr ?_
    refine sr 1 ?_
    refine s1 (yF fa119_0) ?_
    refine s1 (yL 13 Tryz.underlying9) ?_
    refine S_mapUpdate 32 (enc := fun l : List UInt8 => str l) rfl rfl rfl rfl rfl rfl rfl Tryz.underlying114 Tryz.underlying9 rfl same_str fits_str (mput_set _ _ h47) ?_
    refine sgr ?_
    refine s1 (y_bin rfl rfl rfl (fun hg => b_add (by omega))) ?_
    refine sr 1 ?_
    refine S_nil (nN1 (kf := [(6, 6), (13, 14), (35, 51)]) (kl := [(6, 6), (13, 14), (32, 32), (35, 51)]) (i + 1) ?_ ?_ ?_ ?_)
    · omega
    · exact ⟨by omega, by rw [hp2, hx2, tabsNo, if_neg (by simpa using h42), if_neg h47, take_succ_at hx1, List.map_append]; rfl⟩
    · exact ⟨rfl, trivial⟩
    · exact ⟨by rw [take_succ_at hx1, List.map_append (f := Tab.id)]; rfl, trivial⟩
  try simp only [nrm] at h36
  refine egx ?_
  refine sr 1 ?_
  refine sgo ?_
  refine tr1 hRb fun w hM => ?_
  exact ⟨by rw [allNo, modulesNo, fst_b h22 (fst_b h27 (if_neg (by omega))), hp2, ht.end (by omega)]; rfl, hM.below⟩
end Go.Proofs.YtgbldojgbpgjbaaGreatDoor.Sy
end
section
namespace Go.Proofs.YtgbldojgbpgjbaaGreatDoor.Sy
set_option linter.unusedSimpArgs false
set_option linter.unusedVariables false
set_option maxRecDepth 20000
open Go.RowKit Go.Eng
def m00 : SMod := ⟨[], [], 0, 0⟩
def t00 : Tab := ⟨[], 0, ⟨none, 0, 0, []⟩, ⟨none, 0, 0, []⟩, ⟨none, 0, 0, []⟩, ⟨none, 0, 0, []⟩⟩
def pl3 (off : Int) (m : SMod) (t : Tab) : List SPlace × List UInt8 := if t.size ≤ off then ([], []) else (atOut t off, m.name)
def offOf (first : Bool) (ad fr : Int) : Int := if first = true then ad - fr else if ad - fr - 1 < 0 then 0 else ad - fr - 1
def pl2 (ad : Int) (first : Bool) (m : SMod) (ts : List Tab) : List SPlace × List UInt8 :=
  if findI (Tab.hasId m.id) ts 0 < 0 then ([], []) else pl3 (offOf first ad m.fr) m (ts.getD (findI (Tab.hasId m.id) ts 0).toNat t00)
def plOf (ad : Int) (first : Bool) (ms : List SMod) (ts : List Tab) : List SPlace × List UInt8 :=
  if ad = -1 ∨ findI (SMod.has ad) ms 0 < 0 then ([], []) else pl2 ad first (ms.getD (findI (SMod.has ad) ms 0).toNat m00) ts
theorem goPlaces_len {x : Int} {files : List (List UInt8)} : ∀ (l : List SCall) (file : List UInt8) (line : Int) (out : List SPlace), (goPlaces x files l file line out).1.length ≤ out.length + l.length
  | [], _, _, out => by simp [goPlaces]
  | c :: r, file, line, out => by
    simp only [goPlaces]
    split
    · refine Nat.le_trans (goPlaces_len r _ _ _) ?_
      simp; omega
    · refine Nat.le_trans (goPlaces_len r _ _ _) ?_
      simp
theorem atOut_len (t : Tab) (x : Int) : (atOut t x).length ≤ t.ca.l.length + 1 := by
  unfold atOut
  dsimp only
  split
  · simp
  · have := goPlaces_len (x := x) (files := t.fi.l) t.ca.l.reverse (lineFile t.fi.l (atRow x t.ro.l none)) (lineLine (atRow x t.ro.l none)) []
    simp at this ⊢
    omega
theorem plOf_len {w : World} {ts : List Tab} (hk : ∀ t ∈ ts, t.Ok w) (h0 : ∀ t ∈ ts, tabNo t = 0) (ad : Int) (first : Bool) (ms : List SMod) : (plOf ad first ms ts).1.length ≤ 1001 := by
  unfold plOf
  split
  · simp
  unfold pl2
  split
  · simp
  rename_i h
  obtain ⟨n, t, h1, h2, _⟩ := findI_at ts 0 (by omega) (by omega : 0 ≤ findI (Tab.hasId (ms.getD (findI (SMod.has ad) ms 0).toNat m00).id) ts 0)
  have e : (findI (Tab.hasId (ms.getD (findI (SMod.has ad) ms 0).toNat m00).id) ts 0).toNat = n := by omega
  have e2 : ts.getD n t00 = t := by rw [List.getD, h2]; rfl
  rw [e, e2]
  unfold pl3
  split
  · simp
  · have ht : t ∈ ts := List.mem_of_getElem? h2
    have := atOut_len t (offOf first ad (ms.getD (findI (SMod.has ad) ms 0).toNat m00).fr)
    have hl := (hk t ht).ca.t.len
    have hr := (rows_of (h0 t ht)).2.2.2.2
    exact Nat.le_trans this (by omega)
set_option maxHeartbeats 800000 in
theorem placesOf_any (f : Frm) (first : Bool) (ms : Sl SMod) (ts : Sl Tab) (w : World) (hms : ModsOk w ms) (hts : TabsOk w ts) (hm0 : modsNo ms.l 0 = 0) (ht0 : ∀ t ∈ ts.l, tabNo t = 0) :
    Calls Tryz.prog 28 #[.agg f.enc.toArray, .bool first, .slice ms.A ms.q ms.c, .slice ts.A ts.q ts.c] w fun e w' => ∃ A c, e = .returned (.tuple #[.slice A (plOf f.ad first ms.l ts.l).1.length c, str (plOf f.ad first ms.l ts.l).2]) ∧
      w'.ownsRow w.heap.size 68 3 (.slice A (plOf f.ad first ms.l ts.l).1.length c) (plOf f.ad first ms.l ts.l).1.length ((plOf f.ad first ms.l ts.l).1.flatMap SPlace.enc) ∧ Below w.heap.size w w' := by
  have hmt := hms.ok.t
  have hmq := hms.q
  have htt := hts.ok.t
  have htq := hts.q
  have hml := hmt.len
  have htl := htt.len
  refine enter_args (args := [.agg #[str f.m, str f.f, str f.fi, .int .i64 f.ln, .int .i64 f.ad, .bool f.own], .bool first, .slice ms.A ms.q ms.c, .slice ts.A ts.q ts.c]) (F := _) Tryz.func28 rfl Tryz.ntmps28 rfl rfl ?_
  intro Rb hRb hRn
  refine tx ?_
  refine S_box 4 4 rfl rfl rfl rfl rfl ?_
  intro b4
  refine S_box 6 6 rfl rfl rfl rfl rfl ?_
  intro b6
  refine S_nilSlice 8 (e := 68) (size := 3) ?_
  refine sr 2 ?_
  refine sgx ?_
  refine s1 (yL 6 Tryz.underlying27) ?_
  refine s1 (yF fa45_4) ?_
  refine s1 (yL 4 Tryz.underlying3) ?_
  refine s1 (y_call rfl rfl rfl cf67 (fun _ w hM => ModuleAt_any ms _ w (hms.ok.below hM.below) hms.q)) ?_
  refine sr 3 ?_
  refine S_alloc 10 10 rfl rfl rfl rfl z3 ?_
  intro b10
  refine S_store 10 rfl rfl rfl rfl rfl rfl sz3 rfl rfl ?_
  refine sr 1 ?_
  refine sgs ?_
  refine tx ?_
  refine s1 (yF fa45_4) ?_
  refine s1 (yL 4 Tryz.underlying3) ?_
  refine sr 2 ?_
  refine sg rfl (y_move rfl rfl) ?_
  refine sg rfl (y_not rfl rfl) ?_
  refine s1 (y_or rfl rfl rfl) ?_
  refine sgo ?_
  refine T_cond rfl ?_ ?_ <;> intro h29
  · try simp only [nrm] at h29
    refine tx ?_
    refine S_nilSlice 8 (e := 68) (size := 3) ?_
    refine sr 2 ?_
    refine sgo ?_
    refine tr2 hRb fun w hM => ?_
    have e : plOf f.ad first ms.l ts.l = ([], []) := if_pos (by omega)
    rw [e]
    exact ⟨none, 0, rfl, hM.sat 8 _ rfl, hM.below⟩
  try simp only [nrm] at h29
  obtain ⟨n, m, hn, hm, hp⟩ := findI_at ms.l 0 (by omega) h29.2
  have hif : (if findI (SMod.has f.ad) ms.l 0 < 0 then 0 else findI (SMod.has f.ad) ms.l 0) = (n : Int) := by rw [if_neg (by omega)]; omega
  have e1 : ms.l.getD (findI (SMod.has f.ad) ms.l 0).toNat m00 = m := by rw [hn, show (0 + (n : Int)).toNat = n by omega, List.getD, hm]; rfl
  have hr := mods_right _ _ hm0 m (mem_at hm)
  have hp2 : m.fr ≤ f.ad ∧ f.ad < m.tu := by simpa [SMod.has] using hp
  have hnl := (List.getElem?_eq_some_iff.1 hm).1
  refine kgx ?_
  refine sr 1 ?_
  refine s1 (y_makeFunc rfl rfl rfl rfl rfl) ?_
  refine s1 (y_call rfl rfl rfl cf68 (fun _ w hM => IndexFuncT_any _ _ _ _ _ _ (Tab.hasId m.id) w (htt.below hM.below) htq (asks_placesOf (hms.ok.below hM.below) hm (hM.box_cell (i := 6) rfl rfl) (hM.box_cell (i := 10) rfl (by show some (Value.int .i64 _) = _; rw [hif]))))) ?_
  refine sr 1 ?_
  refine sgs ?_
  refine tx ?_
  refine sr 2 ?_
  refine sgo ?_
  refine T_cond rfl ?_ ?_ <;> intro h34
  · try simp only [nrm] at h34
    refine tx ?_
    refine S_nilSlice 8 (e := 68) (size := 3) ?_
    refine sr 2 ?_
    refine sgo ?_
    refine tr2 hRb fun w hM => ?_
    have e : plOf f.ad first ms.l ts.l = ([], []) := by rw [plOf, if_neg (by omega), e1, pl2, if_pos (by omega)]
    rw [e]
    exact ⟨none, 0, rfl, hM.sat 8 _ rfl, hM.below⟩
  try simp only [nrm] at h34
  obtain ⟨k, t, hk, ht, _⟩ := findI_at ts.l 0 (by omega) (by omega : 0 ≤ findI (Tab.hasId m.id) ts.l 0)
  have e2 : ts.l.getD (findI (Tab.hasId m.id) ts.l 0).toNat t00 = t := by rw [hk, show (0 + (k : Int)).toNat = k by omega, List.getD, ht]; rfl
  have hkl := (List.getElem?_eq_some_iff.1 ht).1
  refine kgs ?_
  refine T_draws (by kernel_rfl) (by kernel_rfl) ?_
  refine d1 (yF fa45_4) ?_
  refine d1 (yL 4 Tryz.underlying3) ?_
  refine d1 (yL 6 Tryz.underlying27) ?_
  refine d1 (yL 10 Tryz.underlying3) ?_
  refine d1 (y_indexAddrI (j := n) rfl rfl rfl (fun _ => by omega) Tryz.underlying27 sz125 (fun hg => hmt.isSome (by omega)) (fun _ => by omega)) ?_
  refine d1 (y_fieldEl rfl rfl hmt.rd (fun _ => by omega) fa125_2) ?_
  refine d1 (y_load_fT rfl rfl hmt (fun _ => rfl) (fun _ => hm) rfl Tryz.underlying3 rfl) ?_
  refine d1 (y_bin rfl rfl rfl (fun hg => b_sub (by omega))) ?_
  refine d1 (y_assign rfl rfl) ?_
  refine dgs ?_
  refine tx ?_
  refine sr 2 ?_
  refine sgo ?_
  refine T_cond rfl ?_ ?_ <;> intro h44
  · skip
    obtain rfl : first = false := by simpa using h44
    refine T_region ?_
    refine sr 1 ?_
    refine s1 (y_bin rfl rfl rfl (fun hg => b_sub (by omega))) ?_
    refine s1 (y_max rfl rfl rfl) ?_
    refine sr 1 ?_
    refine sgs ?_
    refine tx ?_
    refine sr 3 ?_
    refine s1 (y_indexAddrI (j := k) rfl rfl rfl (fun _ => by omega) Tryz.underlying28 sz119 (fun hg => htt.isSome (by omega)) (fun _ => by omega)) ?_
    refine s1 (y_fieldEl rfl rfl htt.rd (fun _ => by omega) fa119_1) ?_
    refine s1 (y_load_fT rfl rfl htt (fun _ => rfl) (fun _ => ht) rfl Tryz.underlying3 rfl) ?_
    refine sr 1 ?_
    refine sgo ?_
    refine T_cond rfl ?_ ?_ <;> intro h54
    · try simp only [nrm] at h54
      refine tx ?_
      refine S_nilSlice 8 (e := 68) (size := 3) ?_
      refine sr 2 ?_
      refine sgo ?_
      refine tr2 hRb fun w hM => ?_
      have e : plOf f.ad false ms.l ts.l = ([], []) := by rw [plOf, if_neg (by omega), e1, pl2, if_neg (by omega), e2, pl3]; exact if_pos h54
      rw [e]
      exact ⟨none, 0, rfl, hM.sat 8 _ rfl, hM.below⟩
    try simp only [nrm] at h54
    refine kgx ?_
    refine sr 2 ?_
    refine s1 (y_indexAddrI (j := k) rfl rfl rfl (fun _ => by omega) Tryz.underlying28 sz119 (fun hg => htt.isSome (by omega)) (fun _ => by omega)) ?_
    refine s1 (y_loadT rfl rfl htt (fun _ => rfl) (fun _ => ht) Tryz.underlying119 rfl sz119) ?_
    refine sr 1 ?_
    refine S_callOwn 61 61 rfl rfl rfl rfl rfl rfl rfl cf70 (fun A c => .tuple #[.slice A (atOut t (offOf false f.ad m.fr)).length c, .int .i64 (if findI (SFunc.has (offOf false f.ad m.fr)) t.fu.l 0 < 0 then 7 else 0)]) 68 3 ((atOut t (offOf false f.ad m.fr)).length) ((atOut t (offOf false f.ad m.fr)).flatMap SPlace.enc) (fun w hM => at_any t (offOf false f.ad m.fr) w ((hts.n t (mem_at ht)).below hM.below) (ht0 t (mem_at ht))) ?_
    intro A61 c61
    refine sr 5 ?_
    refine sgs ?_
    refine T_draws (by kernel_rfl) (by kernel_rfl) ?_
    refine d1 (y_move rfl rfl) ?_
    refine d1 (yL 6 Tryz.underlying27) ?_
    refine d1 (yL 10 Tryz.underlying3) ?_
    refine d1 (y_indexAddrI (j := n) rfl rfl rfl (fun _ => by omega) Tryz.underlying27 sz125 (fun hg => hmt.isSome (by omega)) (fun _ => by omega)) ?_
    refine d1 (y_fieldEl rfl rfl hmt.rd (fun _ => by omega) fa125_0) ?_
    refine d1 (y_load_fT rfl rfl hmt (fun _ => rfl) (fun _ => hm) rfl Tryz.underlying9 rfl) ?_
    refine d1 (y_assign rfl rfl) ?_
    refine d1 (y_assign rfl rfl) ?_
    refine dgo ?_
    refine tr2 hRb fun w hM => ?_
    have e : plOf f.ad false ms.l ts.l = (atOut t (offOf false f.ad m.fr), m.name) := by rw [plOf, if_neg (by omega), e1, pl2, if_neg (by omega), e2, pl3]; exact if_neg (fun h => absurd h (Int.not_le.2 h54))
    rw [e]
    exact ⟨A61, c61, rfl, hM.sat 61 _ rfl, hM.below⟩
  obtain rfl : first = true := by simpa using h44
  refine kgs ?_
  refine tx ?_
  refine sr 3 ?_
  refine s1 (y_indexAddrI (j := k) rfl rfl rfl (fun _ => by omega) Tryz.underlying28 sz119 (fun hg => htt.isSome (by omega)) (fun _ => by omega)) ?_
  refine s1 (y_fieldEl rfl rfl htt.rd (fun _ => by omega) fa119_1) ?_
  refine s1 (y_load_fT rfl rfl htt (fun _ => rfl) (fun _ => ht) rfl Tryz.underlying3 rfl) ?_
  refine sr 1 ?_
  refine sgo ?_
  refine T_cond rfl ?_ ?_ <;> intro h54
  · try simp only [nrm] at h54
    refine tx ?_
    refine S_nilSlice 8 (e := 68) (size := 3) ?_
    refine sr 2 ?_
    refine sgo ?_
    refine tr2 hRb fun w hM => ?_
    have e : plOf f.ad true ms.l ts.l = ([], []) := by rw [plOf, if_neg (by omega), e1, pl2, if_neg (by omega), e2, pl3]; exact if_pos h54
    rw [e]
    exact ⟨none, 0, rfl, hM.sat 8 _ rfl, hM.below⟩
  try simp only [nrm] at h54
  refine kgx ?_
  refine sr 2 ?_
  refine s1 (y_indexAddrI (j := k) rfl rfl rfl (fun _ => by omega) Tryz.underlying28 sz119 (fun hg => htt.isSome (by omega)) (fun _ => by omega)) ?_
  refine s1 (y_loadT rfl rfl htt (fun _ => rfl) (fun _ => ht) Tryz.underlying119 rfl sz119) ?_
  refine sr 1 ?_
  refine S_callOwn 61 61 rfl rfl rfl rfl rfl rfl rfl cf70 (fun A c => .tuple #[.slice A (atOut t (offOf true f.ad m.fr)).length c, .int .i64 (if findI (SFunc.has (offOf true f.ad m.fr)) t.fu.l 0 < 0 then 7 else 0)]) 68 3 ((atOut t (offOf true f.ad m.fr)).length) ((atOut t (offOf true f.ad m.fr)).flatMap SPlace.enc) (fun w hM => at_any t (offOf true f.ad m.fr) w ((hts.n t (mem_at ht)).below hM.below) (ht0 t (mem_at ht))) ?_
  intro A61 c61
  refine sr 5 ?_
  refine sgs ?_
  refine T_draws (by kernel_rfl) (by kernel_rfl) ?_
  refine d1 (y_move rfl rfl) ?_
  refine d1 (yL 6 Tryz.underlying27) ?_
  refine d1 (yL 10 Tryz.underlying3) ?_
  refine d1 (y_indexAddrI (j := n) rfl rfl rfl (fun _ => by omega) Tryz.underlying27 sz125 (fun hg => hmt.isSome (by omega)) (fun _ => by omega)) ?_
  refine d1 (y_fieldEl rfl rfl hmt.rd (fun _ => by omega) fa125_0) ?_
  refine d1 (y_load_fT rfl rfl hmt (fun _ => rfl) (fun _ => hm) rfl Tryz.underlying9 rfl) ?_
  refine d1 (y_assign rfl rfl) ?_
  refine d1 (y_assign rfl rfl) ?_
  refine dgo ?_
  refine tr2 hRb fun w hM => ?_
  have e : plOf f.ad true ms.l ts.l = (atOut t (offOf true f.ad m.fr), m.name) := by rw [plOf, if_neg (by omega), e1, pl2, if_neg (by omega), e2, pl3]; exact if_neg (fun h => absurd h (Int.not_le.2 h54))
  rw [e]
  exact ⟨A61, c61, rfl, hM.sat 61 _ rfl, hM.below⟩
end Go.Proofs.YtgbldojgbpgjbaaGreatDoor.Sy
end
section
namespace Go.Proofs.YtgbldojgbpgjbaaGreatDoor.Sy
set_option linter.unusedSimpArgs false
set_option linter.unusedVariables false
set_option maxRecDepth 20000
open Go.RowKit Go.Eng
theorem allNo_zero {fs : Sl Frm} {ms : Sl SMod} {ts : Sl Tab} (h : allNo fs ms ts = 0) : fs.q ≤ 200 ∧ framesNo fs = 0 ∧ modsNo ms.l 0 = 0 ∧ ∀ t ∈ ts.l, tabNo t = 0 := by
  obtain ⟨h1, h⟩ := fst_zero h
  obtain ⟨h2, h3⟩ := fst_zero h
  have e2 := (le_of_ite h2).2
  have e3 := (le_of_ite h3).2
  have e1 := le_of_ite h1
  exact ⟨by have := e1.1; omega, h1, e2, tabs_right _ _ e3⟩
/-! ### Missing -/
end Go.Proofs.YtgbldojgbpgjbaaGreatDoor.Sy
end
