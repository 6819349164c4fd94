/- Part 1, merged by a program. Words, names and ids: what the program and the reference say of them. No condition beyond lengths that a machine can hold. Frames: CheckFrame, checkFrames and what the reference has in their places. Conditions: lengths that a machine can hold. Events in plain lists: faults, tags, crumbs, and their faults' codes. No program in sight. Events are checked: the program's Check and the reference's EventFault. Conditions: those of each theorem. Events are compared, and what is asked of one: Same, Tag, Levels, and the reference's. Conditions: those of each theorem. Parts of a string that are found, and what is put in their place: a mask. Plain lists; no program in sight. What a mask leaves: no row that is long enough, no address; and what is masked once more has none either. Plain lists; no program in sight. Addresses in a string: what is found, and that none is left behind a mask. Plain lists; no program in sight. Clones of faults, tags and crumbs; frames put together, and cut. Conditions: those of each theorem. slices.IndexFunc and DeleteFunc of parts of a string. Conditions: those of each theorem. What a rule finds in a string: rows of digits, of digits of base 16, addresses. Conditions: those of each theorem. A house's setup in plain lists, and its fault. No program in sight. strings.Builder: what its methods do to a builder that the caller has made. Conditions: those of each theorem. What the rules of what is cleared find and put. Conditions: those of each theorem. The digest of a string: Sum, FormatUint in base 16 and Repeat of a nought. Conditions: the table of trailing noughts holds Go's numbers. strings.Repeat of a star: a builder that grows at once and is read while it is written. Conditions: those of each theorem. Addresses in a string, walked. Conditions: those of each theorem. A rule of what is cleared, made ready: what it finds, what it puts. Conditions: those of each theorem. One string is cleared: what is found in it is masked. Conditions: those of the theorem. Patterns with stars: what they match, the search that goes back to the last star, and the table of all beginnings. Plain lists; no program in sight. Conditions as trees: how deep, how many, whether they are right, equal, plain, and for what they hold. Plain trees; no program in sight. Events opened: from the form's reading to 'Evt.Ok'. No condition. Conditions as they lie in memory, and conditions among the arguments opened. No condition. Conditions: too deep, too many, and whether each is right. Conditions: those of each theorem. Conditions: how many within one another, and the text of one. Conditions: those of each theorem. Conditions: whether each is right, and CheckCond. Conditions: those of each theorem. find.Fits: the greedy search. Condition: the lengths are bounded. event.Matches: a name fits a pattern. Condition: the lengths are bounded. event.Copy: the faults, their frames, the tags and the crumbs are new. Conditions: those of the theorem. What a rule makes of an event, in plain lists. No program in sight. A rule is done with an event of our own. Conditions: those of the theorem. event.Copy, the rows of the frames said one by one: they lie apart. Conditions: those of the theorem. The reference's Star: a table of what fits. Condition: the lengths are bounded. Lower letters: fitting without regard to letters is fitting of the lowered. Plain lists; no program in sight. The reference's lower, and FitsText. Condition: the lengths are bounded. What is made plain is right where the condition was, is plain, is no greater, and holds for the same. Plain trees; no program in sight. Events that are right are small, and what a leaf of a condition asks of an event. No program in sight. Rules that mask find nothing when they are asked again; the same content has the same faults. No program in sight. What is cleared, and groups: the rules' faults, the program's and the reference's. Conditions: those of each theorem. event.Clear with rules that mask. Conditions: those of the theorem. A function value that asks something of what it is given, kept for all later worlds; whether one of a list is such. Conditions: those of each theorem. The functions that find.test returns ask what they ought to. Conditions: those of each theorem. -/
import Derived.Test.YtekbcbjimajnfaaGreatDoorZip
import Derived.Test.YtekbcbjimajnfaaGreatDoorLem
import Derived.Test.YtekbcbjimajnfaaGreatDoorShelf
import Derived.Shelf.Strings.SlTrimAscii
import Derived.Test.YtekbcbjimajnfaaGreatDoorApp
import Derived.Test.YtekbcbjimajnfaaGreatDoorOpsB
import Derived.Test.YtekbcbjimajnfaaGreatDoorMany
import Derived.Test.YtekbcbjimajnfaaGreatDoorClr
import Derived.Test.YtekbcbjimajnfaaGreatDoorSwp
import Derived.Test.YtekbcbjimajnfaaGreatDoorGrd
import Derived.Test.YtekbcbjimajnfaaGreatDoorBld
import Derived.Test.YtekbcbjimajnfaaGreatDoorPermg
import Derived.Test.YtekbcbjimajnfaaGreatDoorArr
import Derived.Test.YtekbcbjimajnfaaGreatDoorFz
import Derived.Test.YtekbcbjimajnfaaGreatDoorTree
import Derived.Test.YtekbcbjimajnfaaGreatDoorOpen
import Derived.Test.YtekbcbjimajnfaaGreatDoorOpnN
import Derived.Test.YtekbcbjimajnfaaGreatDoorRows
import Derived.Test.YtekbcbjimajnfaaGreatDoorTail
import Derived.Test.YtekbcbjimajnfaaGreatDoorCopy
import Derived.Test.YtekbcbjimajnfaaGreatDoorCnv
import Derived.Test.YtekbcbjimajnfaaGreatDoorUnb
import Derived.Test.YtekbcbjimajnfaaGreatDoorMov
import Derived.Test.YtekbcbjimajnfaaGreatDoorByw
import Derived.Test.YtekbcbjimajnfaaGreatDoorPost
import Derived.Test.YtekbcbjimajnfaaGreatDoorBxr
section
namespace Go.Proofs.YtekbcbjimajnfaaGreatDoor
set_option linter.unusedSimpArgs false
set_option linter.unusedVariables false
set_option maxRecDepth 20000
open Go.RowKit Go.Eng
theorem IndexByte_any (s : List UInt8) (c : UInt8) (w : World) :
    Calls Tryz.prog 206 #[str s, .int .u8 (c.toNat : Int)] w fun e w' => e = .returned (.int .i64 (Lib.indexByte s c)) ∧ Below w.heap.size w w' := by
  refine (Tryz.strings_IndexByte ⟨s.toArray⟩ (c.toNat : Int) w).mono fun e w' ⟨h1, h2⟩ => ⟨?_, h2 ▸ Below.refl _ _⟩
  rw [h1]; simp
def hexs : List UInt8 := [48, 49, 50, 51, 52, 53, 54, 55, 56, 57, 97, 98, 99, 100, 101, 102]
theorem TrimHex_any (s : List UInt8) (hs : s.length ≤ 1000) (w : World) :
    Calls Tryz.prog 84 #[str s, str hexs] w fun e w' => e = .returned (str (Lib.trimS s hexs)) ∧ Below w.heap.size w w' :=
  Any.strings_Trim_laid Tryz.lays160 (by kernel_rfl) ⟨s.toArray⟩ ⟨hexs.toArray⟩ w (by rw [Lib.size_eq]; simp; omega) (by decide) (ascii_of_all (by decide))

/-- 16 digits of base 16 -/
def idOk (s : List UInt8) : Bool := decide ((s.length : Int) = 16) && decide (Lib.trimS s hexs = [])
/-- visible bytes alone, none of some others -/
def byteBad (wo : List UInt8) (c : UInt8) : Bool := decide ((c.toNat : Int) < 33) || decide ((126 : Int) < (c.toNat : Int)) || wo.contains c
def wordOk (wo s : List UInt8) : Bool := !(s.any (byteBad wo))
theorem wordOk_bad {wo : List UInt8} {c : UInt8} {r : List UInt8} (h : byteBad wo c = true) : wordOk wo (c :: r) = false := by simp [wordOk, h]
theorem wordOk_next {wo : List UInt8} {c : UInt8} {r : List UInt8} (h : byteBad wo c = false) : wordOk wo (c :: r) = wordOk wo r := by simp [wordOk, h]
theorem isWord_any (s wo : List UInt8) (hs : s.length ≤ 4611686018427387904) (w : World) :
    Calls Tryz.prog 211 #[str s, str wo] w fun e w' => e = .returned (.bool (wordOk wo s)) ∧ Below w.heap.size w w' := by
  refine enter_args (args := [str s, str wo]) (F := _) Tryz.func211 rfl Tryz.ntmps211 rfl rfl ?_
  intro Rb hRb hRn
  refine tx ?_
  refine sr 1 ?_
  refine sgs ?_
  refine tx ?_
  refine sr 1 ?_
  refine s1 (y_len_str rfl rfl Tryz.underlying9) ?_
  refine sr 1 ?_
  refine sgo ?_
  refine T_block ?_
  refine lK1 (kf := [(4, 5), (8, 29)]) (kl := [(4, 5), (8, 29)]) (fun (i : Nat) => [(8, true, .int .i64 (i : Int))]) (fun (i : Nat) => []) (fun (i : Nat) => i ≤ s.length ∧ wordOk wo s = wordOk wo (s.drop i)) (fun (i : Nat) => s.length - i) 0 ?_ ?_ ?_ ?_
  · exact ⟨by omega, rfl⟩
  · exact ⟨rfl, trivial⟩
  · exact trivial
  rintro i ⟨hp1, hp2⟩
  refine tx ?_
  refine sr 1 ?_
  refine sgs ?_
  refine T_cond rfl ?_ ?_ <;> intro h9
  · try simp only [nrm] at h9
    refine kgs ?_
    refine T_block ?_
    refine tx ?_
    refine sr 2 ?_
    refine sgx ?_
    refine sr 2 ?_
    refine s1 (y_index_str rfl rfl rfl Tryz.underlying9 (fun _ => by omega)) ?_
    refine sr 2 ?_
    refine sg rfl (y_move rfl rfl) ?_
    refine sg rfl (y_move rfl rfl) ?_
    refine sg rfl (y_index_str rfl rfl rfl Tryz.underlying9 (fun hg => by simp only [Bool.true_and, Bool.and_eq_true, beq_iff_eq, decide_eq_true_eq, decide_eq_false_iff_not, Int.not_lt, Int.not_le] at hg; omega)) ?_
    refine sg rfl (y_bin rfl rfl rfl (fun _ => b_gtr)) ?_
    refine s1 (y_or rfl rfl rfl) ?_
    refine sr 1 ?_
    refine sg rfl (y_move rfl rfl) ?_
    refine sg rfl (y_move rfl rfl) ?_
    refine sg rfl (y_move rfl rfl) ?_
    refine sg rfl (y_index_str rfl rfl rfl Tryz.underlying9 (fun hg => by simp only [Bool.true_and, Bool.and_eq_true, beq_iff_eq, decide_eq_true_eq, decide_eq_false_iff_not, Int.not_lt, Int.not_le] at hg; omega)) ?_
    refine sg rfl (y_call rfl rfl rfl cf206 (fun _ w _ => IndexByte_any _ _ w)) ?_
    refine sg rfl (y_as (v' := .bool (wo.contains (s.getD i 0))) (by rw [Lib.contains_iff_indexByte]) (y_bin rfl rfl rfl (fun _ => b_geq))) ?_
    refine s1 (y_as (v' := .bool (byteBad wo (s.getD i 0))) (by exact rfl) (y_or rfl rfl rfl)) ?_
    refine sgo ?_
    refine T_cond rfl ?_ ?_ <;> intro h28
    · skip
      refine tx ?_
      refine sr 1 ?_
      refine sgo ?_
      refine tr1 hRb fun w hM => ?_
      exact ⟨by rw [hp2, drop_str (by omega), wordOk_bad h28], hM.below⟩
    refine kgr ?_
    refine s1 (y_bin rfl rfl rfl (fun hg => b_add (by omega))) ?_
    refine sr 1 ?_
    refine S_nil (nK1 (kf := [(4, 5), (8, 29)]) (kl := [(4, 5), (8, 29)]) (i + 1) ?_ ?_ ?_ ?_)
    · omega
    · exact ⟨by omega, by rw [hp2, drop_str (by omega), wordOk_next h28]⟩
    · exact ⟨rfl, trivial⟩
    · exact trivial
  try simp only [nrm] at h9
  refine egx ?_
  refine sr 1 ?_
  refine sgo ?_
  refine tr1 hRb fun w hM => ?_
  exact ⟨by rw [hp2, List.drop_eq_nil_of_le (by omega)]; rfl, hM.below⟩
end Go.Proofs.YtekbcbjimajnfaaGreatDoor
end
section
namespace Go.Proofs.YtekbcbjimajnfaaGreatDoor
set_option linter.unusedSimpArgs false
set_option linter.unusedVariables false
set_option maxRecDepth 20000
open Go.RowKit Go.Eng
abbrev marks : List UInt8 := [40, 41, 58, 44]
/-- the fault of three words of a frame -/
def wordsNo (m f fi : List UInt8) : Int :=
  if (decide ((200 : Int) < (m.length : Int)) || decide ((200 : Int) < (f.length : Int)) || decide ((200 : Int) < (fi.length : Int))) = true then 4
  else if (!(wordOk marks m) || !(wordOk marks f) || !(wordOk marks fi)) = true then 9
  else if f = [] then 1 else 0
theorem if_t {α : Type} {c : Bool} {a b : α} (h : c = true) : (if c = true then a else b) = a := if_pos h
theorem if_f {α : Type} {c : Bool} {a b : α} (h : c = false) : (if c = true then a else b) = b := if_neg (by simp [h])
structure Frm where
  m : List UInt8
  f : List UInt8
  fi : List UInt8
  ln : Int
  ad : Int
  own : Bool
def Frm.enc (x : Frm) : List Value := [str x.m, str x.f, str x.fi, .int .i64 x.ln, .int .i64 x.ad, .bool x.own]
def Frm.val (x : Frm) : Value := .agg x.enc.toArray
/-- the fault of a frame -/
def frmNo (x : Frm) : Int :=
  if wordsNo x.m x.f x.fi ≠ 0 then wordsNo x.m x.f x.fi
  else if (decide (x.ln < 0) || decide (9999999 < x.ln) || (decide (x.ad < -1) || decide (281474976710655 < x.ad))) = true then 2
  else if x.ln ≠ 0 ∧ x.fi = [] then 1 else 0
theorem frmNo_words {x : Frm} {k : Int} (h : wordsNo x.m x.f x.fi = k) (hk : k ≠ 0) : frmNo x = k := by unfold frmNo; rw [h, if_pos hk]
theorem frmNo_rest {x : Frm} (h : wordsNo x.m x.f x.fi = 0) : frmNo x = if (decide (x.ln < 0) || decide (9999999 < x.ln) || (decide (x.ad < -1) || decide (281474976710655 < x.ad))) = true then 2
  else if x.ln ≠ 0 ∧ x.fi = [] then 1 else 0 := by unfold frmNo; rw [h, if_neg (by simp)]
theorem soutside_any (n lo hi : Int) (w : World) :
    Calls Tryz.prog 240 #[.int .i64 n, .int .i64 lo, .int .i64 hi] w fun e w' => e = .returned (.bool (decide (n < lo) || decide (hi < n))) ∧ Below w.heap.size w w' := by
  refine enter_args (args := [.int .i64 n, .int .i64 lo, .int .i64 hi]) (F := _) Tryz.func240 rfl Tryz.ntmps240 rfl rfl ?_
  intro Rb hRb hRn
  refine tx ?_
  refine sr 1 ?_
  refine sgx ?_
  refine sr 4 ?_
  refine sg rfl (y_move rfl rfl) ?_
  refine sg rfl (y_move rfl rfl) ?_
  refine sg rfl (y_bin rfl rfl rfl (fun _ => b_gtr)) ?_
  refine s1 (y_or rfl rfl rfl) ?_
  refine sr 1 ?_
  refine sgo ?_
  refine tr1 hRb fun w hM => ?_
  exact ⟨rfl, hM.below⟩
theorem CheckFrame_any (x : Frm) (hl1 : x.m.length ≤ 4611686018427387904) (hl2 : x.f.length ≤ 4611686018427387904) (hl3 : x.fi.length ≤ 4611686018427387904) (w : World) :
    Calls Tryz.prog 231 #[x.val] w fun e w' => e = .returned (.int .i64 (frmNo x)) ∧ Below w.heap.size w w' := by
  obtain ⟨m, f, fi, ln, ad, own⟩ := x
  simp only at hl1 hl2 hl3
  refine enter_args (args := [.agg #[str m, str f, str fi, .int .i64 ln, .int .i64 ad, .bool own]]) (F := _) Tryz.func231 rfl Tryz.ntmps231 rfl rfl ?_
  intro Rb hRb hRn
  refine tx ?_
  refine S_box 1 1 rfl rfl rfl rfl rfl ?_
  intro b1
  refine sr 1 ?_
  refine sgs ?_
  refine T_block ?_
  refine tx ?_
  refine s1 (yF fa105_0) ?_
  refine s1 (yL 1 Tryz.underlying9) ?_
  refine s1 (y_len_str rfl rfl Tryz.underlying9) ?_
  refine sr 2 ?_
  refine sg rfl (yF fa105_1) ?_
  refine sg rfl (yL 1 Tryz.underlying9) ?_
  refine sg rfl (y_len_str rfl rfl Tryz.underlying9) ?_
  refine sg rfl (y_bin rfl rfl rfl (fun _ => b_gtr)) ?_
  refine s1 (y_or rfl rfl rfl) ?_
  refine sr 1 ?_
  refine sg rfl (yF fa105_2) ?_
  refine sg rfl (yL 1 Tryz.underlying9) ?_
  refine sg rfl (y_len_str rfl rfl Tryz.underlying9) ?_
  refine sg rfl (y_bin rfl rfl rfl (fun _ => b_gtr)) ?_
  refine s1 (y_or rfl rfl rfl) ?_
  refine sr 1 ?_
  refine sgo ?_
  refine T_cond rfl ?_ ?_ <;> intro h3
  · skip
    refine tx ?_
    refine sr 1 ?_
    refine sgo ?_
    refine tr1 hRb fun w hM => ?_
    exact ⟨by rw [frmNo_words (x := ⟨m, f, fi, ln, ad, own⟩) (if_t h3) (by decide)], hM.below⟩
  refine tx ?_
  refine s1 (yF fa105_0) ?_
  refine s1 (yL 1 Tryz.underlying9) ?_
  refine s1 (y_call rfl rfl rfl cf211 (fun hg w _ => isWord_any _ _ (by first | omega | (have := hsz; omega)) w)) ?_
  refine sr 2 ?_
  refine sg rfl (yF fa105_1) ?_
  refine sg rfl (yL 1 Tryz.underlying9) ?_
  refine sg rfl (y_call rfl rfl rfl cf211 (fun hg w _ => isWord_any _ _ (by first | omega | (have := hsz; omega)) w)) ?_
  refine sg rfl (y_not rfl rfl) ?_
  refine s1 (y_or rfl rfl rfl) ?_
  refine sr 1 ?_
  refine sg rfl (yF fa105_2) ?_
  refine sg rfl (yL 1 Tryz.underlying9) ?_
  refine sg rfl (y_call rfl rfl rfl cf211 (fun hg w _ => isWord_any _ _ (by first | omega | (have := hsz; omega)) w)) ?_
  refine sg rfl (y_not rfl rfl) ?_
  refine s1 (y_or rfl rfl rfl) ?_
  refine sr 1 ?_
  refine sgo ?_
  refine T_cond rfl ?_ ?_ <;> intro h20
  · skip
    refine tx ?_
    refine sr 1 ?_
    refine sgo ?_
    refine tr1 hRb fun w hM => ?_
    exact ⟨by rw [frmNo_words (x := ⟨m, f, fi, ln, ad, own⟩) ((if_f h3).trans (if_t h20)) (by decide)], hM.below⟩
  refine tx ?_
  refine s1 (yF fa105_1) ?_
  refine s1 (yL 1 Tryz.underlying9) ?_
  refine s1 (y_bin rfl rfl rfl (fun _ => b_eqls)) ?_
  refine sr 1 ?_
  refine sgo ?_
  refine T_cond rfl ?_ ?_ <;> intro h37
  · skip
    refine tx ?_
    refine sr 1 ?_
    refine sgo ?_
    refine tr1 hRb fun w hM => ?_
    exact ⟨by rw [frmNo_words (x := ⟨m, f, fi, ln, ad, own⟩) ((if_f h3).trans ((if_f h20).trans (if_pos (by simpa using h37)))) (by decide)], hM.below⟩
  refine tx ?_
  refine s1 (yF fa105_3) ?_
  refine s1 (yL 1 Tryz.underlying3) ?_
  refine s1 (y_call rfl rfl rfl cf240 (fun _ w _ => soutside_any _ _ _ w)) ?_
  refine sr 1 ?_
  refine sg rfl (yF fa105_4) ?_
  refine sg rfl (yL 1 Tryz.underlying3) ?_
  refine sg rfl (y_call rfl rfl rfl cf240 (fun _ w _ => soutside_any _ _ _ w)) ?_
  refine s1 (y_or rfl rfl rfl) ?_
  refine sr 1 ?_
  refine sgo ?_
  refine T_cond rfl ?_ ?_ <;> intro h41
  · skip
    refine tx ?_
    refine sr 1 ?_
    refine sgo ?_
    refine tr1 hRb fun w hM => ?_
    exact ⟨by rw [frmNo_rest (x := ⟨m, f, fi, ln, ad, own⟩) ((if_f h3).trans ((if_f h20).trans (if_neg (by simpa using h37)))), if_t h41], hM.below⟩
  refine tx ?_
  refine s1 (yF fa105_3) ?_
  refine s1 (yL 1 Tryz.underlying3) ?_
  refine sr 2 ?_
  refine sg rfl (yF fa105_2) ?_
  refine sg rfl (yL 1 Tryz.underlying9) ?_
  refine sg rfl (y_bin rfl rfl rfl (fun _ => b_eqls)) ?_
  refine s1 (y_and rfl rfl rfl) ?_
  refine sr 1 ?_
  refine sgo ?_
  refine T_cond rfl ?_ ?_ <;> intro h50
  · skip
    refine tx ?_
    refine sr 1 ?_
    refine sgo ?_
    refine tr1 hRb fun w hM => ?_
    exact ⟨by rw [frmNo_rest (x := ⟨m, f, fi, ln, ad, own⟩) ((if_f h3).trans ((if_f h20).trans (if_neg (by simpa using h37)))), if_f h41, if_pos (by simpa using h50)], hM.below⟩
  refine kgx ?_
  refine sr 1 ?_
  refine sgo ?_
  refine tr1 hRb fun w hM => ?_
  exact ⟨by rw [frmNo_rest (x := ⟨m, f, fi, ln, ad, own⟩) ((if_f h3).trans ((if_f h20).trans (if_neg (by simpa using h37)))), if_f h41, if_neg (by simpa using h50)], hM.below⟩

/-! ### The reference's -/
theorem any_t {α : Type} {p : α → Bool} {a : α} {r : List α} (h : p a = true) : (a :: r).any p = true := by simp [h]
theorem any_f {α : Type} {p : α → Bool} {a : α} {r : List α} (h : p a = false) : (a :: r).any p = r.any p := by simp [h]
theorem mem_at {α : Type} {l : List α} {i : Nat} {x : α} (h : l[i]? = some x) : x ∈ l := List.mem_of_getElem? h
structure FrmsOk (w : World) (l : Sl Frm) : Prop where
  ok : l.Ok Frm.enc 6 w
  q : l.q ≤ 4611686018427387904
  n : ∀ f ∈ l.l, f.m.length ≤ 4611686018427387904 ∧ f.f.length ≤ 4611686018427387904 ∧ f.fi.length ≤ 4611686018427387904
theorem FrmsOk.below {w w' : World} {l : Sl Frm} (h : FrmsOk w l) (hb : Below w.heap.size w w') : FrmsOk w' l := ⟨h.ok.below hb, h.q, h.n⟩
def frmsNo : List Frm → Int
  | [] => 0
  | f :: r => if frmNo f ≠ 0 then frmNo f else frmsNo r
def framesNo (l : Sl Frm) : Int := if (200 : Int) < l.q then 4 else frmsNo l.l
theorem checkFrames_any (l : Sl Frm) (w : World) (hl : FrmsOk w l) :
    Calls Tryz.prog 212 #[.slice l.A l.q l.c] w fun e w' => e = .returned (.int .i64 (framesNo l)) ∧ Below w.heap.size w w' := by
  have ht := hl.ok.t
  have hq := hl.q
  refine enter_args (args := [.slice l.A l.q l.c]) (F := _) Tryz.func212 rfl Tryz.ntmps212 rfl rfl ?_
  intro Rb hRb hRn
  refine tx ?_
  refine sr 1 ?_
  refine sgs ?_
  refine tx ?_
  refine sr 1 ?_
  refine s1 (y_len_slice rfl rfl Tryz.underlying98) ?_
  refine sr 1 ?_
  refine sgo ?_
  refine T_cond rfl ?_ ?_ <;> intro h8
  · try simp only [nrm] at h8
    refine tx ?_
    refine sr 1 ?_
    refine sgo ?_
    refine tr1 hRb fun w hM => ?_
    exact ⟨by rw [framesNo, if_pos (by omega)], hM.below⟩
  try simp only [nrm] at h8
  refine kgs ?_
  refine tx ?_
  refine sr 1 ?_
  refine s1 (y_len_slice rfl rfl Tryz.underlying98) ?_
  refine sr 1 ?_
  refine sgo ?_
  refine T_block ?_
  refine lK1 (kf := [(2, 2), (4, 5), (11, 20)]) (kl := [(2, 2), (4, 5), (11, 20)]) (fun (i : Nat) => [(11, true, .int .i64 (i : Int))]) (fun (i : Nat) => []) (fun (i : Nat) => i ≤ l.q ∧ frmsNo l.l = frmsNo (l.l.drop i)) (fun (i : Nat) => l.q - i) 0 ?_ ?_ ?_ ?_
  · exact ⟨by omega, rfl⟩
  · exact ⟨rfl, trivial⟩
  · exact trivial
  rintro i ⟨hp1, hp2⟩
  refine tx ?_
  refine sr 1 ?_
  refine sgs ?_
  refine T_cond rfl ?_ ?_ <;> intro h12
  · try simp only [nrm] at h12
    obtain ⟨x, hx1, hx2⟩ := ht.at (i := i) (by omega)
    have hn := hl.n x (mem_at hx1)
    refine kgs ?_
    refine T_block ?_
    refine tx ?_
    refine s1 (y_indexAddr rfl rfl rfl Tryz.underlying98 sz105 (fun hg => ht.isSome (by omega)) (fun _ => by omega)) ?_
    refine s1 (y_loadT rfl rfl ht (fun _ => rfl) (fun _ => hx1) Tryz.underlying105 rfl sz105) ?_
    refine S_alloc 4 4 rfl rfl rfl rfl z105 ?_
    intro b4
    refine S_store 4 rfl rfl rfl rfl rfl rfl sz105 rfl rfl ?_
    refine sgx ?_
    refine s1 (yA 4 rfl Tryz.underlying105 sz105) ?_
    refine s1 (y_call rfl rfl rfl cf231 (fun _ w _ => CheckFrame_any x hn.1 hn.2.1 hn.2.2 w)) ?_
    refine sr 1 ?_
    refine sgx ?_
    refine sr 2 ?_
    refine sgo ?_
    refine T_cond rfl ?_ ?_ <;> intro h18
    · try simp only [nrm] at h18
      refine tx ?_
      refine sr 2 ?_
      refine sgo ?_
      refine tr1 hRb fun w hM => ?_
      exact ⟨by rw [framesNo, if_neg (by omega), hp2, hx2, frmsNo, if_pos h18], hM.below⟩
    try simp only [nrm] at h18
    refine kgr ?_
    refine s1 (y_bin rfl rfl rfl (fun hg => b_add (by omega))) ?_
    refine sr 1 ?_
    refine S_nil (nK1 (kf := [(2, 2), (4, 5), (11, 20)]) (kl := [(2, 2), (4, 5), (11, 20)]) (i + 1) ?_ ?_ ?_ ?_)
    · omega
    · exact ⟨by omega, by rw [hp2, hx2, frmsNo, if_neg (by simpa using h18)]⟩
    · exact ⟨rfl, trivial⟩
    · exact trivial
  try simp only [nrm] at h12
  refine egx ?_
  refine sr 1 ?_
  refine sgo ?_
  refine tr1 hRb fun w hM => ?_
  exact ⟨by rw [framesNo, if_neg (by omega), hp2, ht.end (by omega)]; rfl, hM.below⟩
end Go.Proofs.YtekbcbjimajnfaaGreatDoor
end
section
namespace Go.Proofs.YtekbcbjimajnfaaGreatDoor
set_option linter.unusedSimpArgs false
set_option linter.unusedVariables false
set_option maxRecDepth 20000
open Go.RowKit Go.Eng
/-- a name: 1 to 40 bytes, the first one a small letter -/
def nameBs : List UInt8 := [97, 98, 99, 100, 101, 102, 103, 104, 105, 106, 107, 108, 109, 110, 111, 112, 113, 114, 115, 116, 117, 118, 119, 120, 121, 122, 48, 49, 50, 51, 52, 53, 54, 55, 56, 57, 45, 46, 95]
def nameOk (s : List UInt8) : Bool := !decide (s = []) && decide ((s.length : Int) ≤ 40) && decide ((97 : Int) ≤ ((s.getD 0 0).toNat : Int)) && decide (((s.getD 0 0).toNat : Int) ≤ 122) && decide (Lib.trimS s nameBs = [])
def valBad (c : UInt8) : Bool := decide ((c.toNat : Int) < 32) || decide ((126 : Int) < (c.toNat : Int))
def sayBad (c : UInt8) : Bool := decide ((c.toNat : Int) < 32) || decide ((c.toNat : Int) = 127)
def valNo (s : List UInt8) : Int := if (200 : Int) < s.length then 4 else if s.any valBad = true then 9 else 0
def sayNo (s : List UInt8) : Int := if (2000 : Int) < s.length then 4 else if s.any sayBad = true then 9 else 0
structure Flt where
  k : List UInt8
  t : List UInt8
  fr : Sl Frm
def Flt.enc (f : Flt) : List Value := [str f.k, str f.t, .slice f.fr.A f.fr.q f.fr.c]
def Flt.val (f : Flt) : Value := .agg f.enc.toArray
structure STag where
  n : List UInt8
  v : List UInt8
def STag.enc (t : STag) : List Value := [str t.n, str t.v]
structure SCrumb where
  at_ : Int
  k : List UInt8
  t : List UInt8
def SCrumb.enc (c : SCrumb) : List Value := [.int .i64 c.at_, str c.k, str c.t]
structure Evt where
  id : List UInt8
  at_ : Int
  lv : Int
  fa : Sl Flt
  ta : Sl STag
  cr : Sl SCrumb
  rel : List UInt8
  us : List UInt8
  wt : Int
def Evt.enc (e : Evt) : List Value := [str e.id, .int .i64 e.at_, .int .i64 e.lv, .slice e.fa.A e.fa.q e.fa.c, .slice e.ta.A e.ta.q e.ta.c, .slice e.cr.A e.cr.q e.cr.c, str e.rel, str e.us, .int .i64 e.wt]
def Evt.val (e : Evt) : Value := .agg e.enc.toArray
structure FltOk (w : World) (f : Flt) : Prop where
  k : f.k.length ≤ 4611686018427387904
  t : f.t.length ≤ 4611686018427387904
  fr : FrmsOk w f.fr
structure FltsOk (w : World) (l : Sl Flt) : Prop where
  ok : l.Ok Flt.enc 3 w
  q : l.q ≤ 4611686018427387904
  n : ∀ f ∈ l.l, FltOk w f
structure TagsOk (w : World) (l : Sl STag) : Prop where
  ok : l.Ok STag.enc 2 w
  q : l.q ≤ 4611686018427387904
  n : ∀ t ∈ l.l, t.n.length ≤ 4611686018427387904 ∧ t.v.length ≤ 4611686018427387904
structure CrumbsOk (w : World) (l : Sl SCrumb) : Prop where
  ok : l.Ok SCrumb.enc 3 w
  q : l.q ≤ 4611686018427387904
  n : ∀ c ∈ l.l, c.k.length ≤ 4611686018427387904 ∧ c.t.length ≤ 4611686018427387904
structure Evt.Ok (w : World) (e : Evt) : Prop where
  fa : FltsOk w e.fa
  ta : TagsOk w e.ta
  cr : CrumbsOk w e.cr
  id : e.id.length ≤ 4611686018427387904
  rel : e.rel.length ≤ 4611686018427387904
  us : e.us.length ≤ 4611686018427387904
section
variable {w w' : World} (hb : Below w.heap.size w w')
include hb
theorem FltOk.below {f : Flt} (h : FltOk w f) : FltOk w' f := ⟨h.k, h.t, h.fr.below hb⟩
theorem FltsOk.below {l : Sl Flt} (h : FltsOk w l) : FltsOk w' l := ⟨h.ok.below hb, h.q, fun f hf => (h.n f hf).below hb⟩
theorem TagsOk.below {l : Sl STag} (h : TagsOk w l) : TagsOk w' l := ⟨h.ok.below hb, h.q, h.n⟩
theorem CrumbsOk.below {l : Sl SCrumb} (h : CrumbsOk w l) : CrumbsOk w' l := ⟨h.ok.below hb, h.q, h.n⟩
theorem Evt.Ok.below {e : Evt} (h : e.Ok w) : e.Ok w' := ⟨h.fa.below hb, h.ta.below hb, h.cr.below hb, h.id, h.rel, h.us⟩
end
/-! ### The codes of their faults -/
def fltNo (f : Flt) : Int :=
  if (200 : Int) < f.k.length then 4 else if wordOk [58] f.k = false then 9 else if f.k = [] then 1 else if sayNo f.t ≠ 0 then sayNo f.t else framesNo f.fr
def fltsNo : List Flt → Int
  | [] => 0
  | f :: r => if fltNo f ≠ 0 then fltNo f else fltsNo r
def faultsNo (l : Sl Flt) : Int := if l.q = 0 then 7 else if (10 : Int) < l.q then 4 else fltsNo l.l
def tagsNo : Option (List UInt8) → List STag → Int
  | _, [] => 0
  | p, t :: r => if nameOk t.n = false then 3 else if (p.any fun s => Op.bytesLess t.n s || decide (t.n = s)) = true then 5 else if valNo t.v ≠ 0 then valNo t.v else tagsNo (some t.n) r
def crumbsNo : Option Int → List SCrumb → Int
  | _, [] => 0
  | p, c :: r => if (decide (c.at_ < 0) || decide (3155759999 < c.at_)) = true then 2 else if (p.any fun n => decide (c.at_ < n)) = true then 5 else if nameOk c.k = false then 3 else if sayNo c.t ≠ 0 then sayNo c.t else crumbsNo (some c.at_) r
def headNo (id : List UInt8) (at_ lv : Int) : Int := if idOk id = false then 1 else if (decide (at_ < 0) || decide (3155759999 < at_) || (decide (lv < 1) || decide (5 < lv))) = true then 2 else 0
def fst (a b : Int) : Int := if a ≠ 0 then a else b
def evNo (e : Evt) : Int := fst (headNo e.id e.at_ e.lv) (fst (faultsNo e.fa) (fst (if (40 : Int) < e.ta.q then 4 else tagsNo none e.ta.l) (fst (if (50 : Int) < e.cr.q then 4 else crumbsNo none e.cr.l)
  (if (!decide (e.rel = []) && !nameOk e.rel) = true then 3 else fst (valNo e.us) (if (decide (e.wt < 1) || decide (1000000 < e.wt)) = true then 2 else 0)))))
theorem fst_t {a b : Int} (h : ¬ a = 0) : fst a b = a := if_pos h
theorem fst_f {a b : Int} (h : a = 0) : fst a b = b := if_neg (by simp [h])
theorem name_t {s : List UInt8} (h : (decide ((s.length : Int) < 1) || decide ((40 : Int) < (s.length : Int)) || decide (((s.getD 0 0).toNat : Int) < 97) || decide ((122 : Int) < ((s.getD 0 0).toNat : Int))) = true) : nameOk s = false := by
  unfold nameOk
  cases s with
  | nil => rfl
  | cons a r =>
    simp only [Bool.or_eq_true, decide_eq_true_eq, List.length_cons] at h
    rw [Bool.eq_false_iff]
    simp only [ne_eq, Bool.and_eq_true, decide_eq_true_eq, List.length_cons]
    omega
theorem name_f {s : List UInt8} (h : (decide ((s.length : Int) < 1) || decide ((40 : Int) < (s.length : Int)) || decide (((s.getD 0 0).toNat : Int) < 97) || decide ((122 : Int) < ((s.getD 0 0).toNat : Int))) = false) : s.length ≤ 40 ∧ decide (Lib.trimS s nameBs = []) = nameOk s := by
  cases s with
  | nil => simp at h
  | cons a r =>
    simp only [Bool.or_eq_false_iff, decide_eq_false_iff_not, List.length_cons] at h
    refine ⟨by simp only [List.length_cons]; omega, ?_⟩
    unfold nameOk
    rw [show (!decide (a :: r = [])) = true from by simp, show decide (((a :: r).length : Int) ≤ 40) = true from decide_eq_true (by simp only [List.length_cons]; omega), show decide ((97 : Int) ≤ (((a :: r).getD 0 0).toNat : Int)) = true from decide_eq_true (by omega),
      show decide ((((a :: r).getD 0 0).toNat : Int) ≤ 122) = true from decide_eq_true (by omega)]
    rfl
def prevN (i : Nat) (b : STag) : Option (List UInt8) := if i = 0 then none else some b.n
def prevA (i : Nat) (b : SCrumb) : Option Int := if i = 0 then none else some b.at_
theorem prevN_any (i : Nat) (b : STag) (f : List UInt8 → Bool) : (prevN i b).any f = (decide ((0 : Int) < (i : Int)) && f b.n) := by
  unfold prevN
  rcases Nat.eq_zero_or_pos i with h | h
  · simp [h]
  · rw [if_neg (by omega)]; simp [h]
theorem prevA_any (i : Nat) (b : SCrumb) (f : Int → Bool) : (prevA i b).any f = (decide ((0 : Int) < (i : Int)) && f b.at_) := by
  unfold prevA
  rcases Nat.eq_zero_or_pos i with h | h
  · simp [h]
  · rw [if_neg (by omega)]; simp [h]
theorem tagsNo_nil (p : Option (List UInt8)) : tagsNo p [] = 0 := by unfold tagsNo; rfl
theorem crumbsNo_nil (p : Option Int) : crumbsNo p [] = 0 := by unfold crumbsNo; rfl
theorem fltNo_say {f : Flt} {k : Int} (h1 : ¬ (200 : Int) < f.k.length) (h2 : wordOk [58] f.k = true) (h3 : ¬ f.k = []) (h : sayNo f.t = k) (hk : ¬ k = 0) : fltNo f = k := by
  rw [fltNo, if_neg h1, if_neg (by rw [h2]; simp), if_neg h3, h, if_pos hk]
theorem fltNo_frs {f : Flt} (h1 : ¬ (200 : Int) < f.k.length) (h2 : wordOk [58] f.k = true) (h3 : ¬ f.k = []) (h : sayNo f.t = 0) : fltNo f = framesNo f.fr := by
  rw [fltNo, if_neg h1, if_neg (by rw [h2]; simp), if_neg h3, h, if_neg (by simp)]
end Go.Proofs.YtekbcbjimajnfaaGreatDoor
end
section
namespace Go.Proofs.YtekbcbjimajnfaaGreatDoor
set_option linter.unusedSimpArgs false
set_option linter.unusedVariables false
set_option maxRecDepth 20000
open Go.RowKit Go.Eng
theorem TrimName_any (s : List UInt8) (hs : s.length ≤ 1000) (w : World) :
    Calls Tryz.prog 84 #[str s, str nameBs] w fun e w' => e = .returned (str (Lib.trimS s nameBs)) ∧ Below w.heap.size w w' :=
  Any.strings_Trim_laid Tryz.lays160 (by kernel_rfl) ⟨s.toArray⟩ ⟨nameBs.toArray⟩ w (by rw [Lib.size_eq]; simp; omega) (by decide) (ascii_of_all (by decide))
theorem isDigest_any (s : List UInt8) (w : World) :
    Calls Tryz.prog 133 #[str s] w fun e w' => e = .returned (.bool (idOk s)) ∧ Below w.heap.size w w' := by
  refine enter_args (args := [str s]) (F := _) Tryz.func133 rfl Tryz.ntmps133 rfl rfl ?_
  intro Rb hRb hRn
  refine tx ?_
  refine sr 1 ?_
  refine sgx ?_
  refine sr 1 ?_
  refine s1 (y_len_str rfl rfl Tryz.underlying9) ?_
  refine sr 2 ?_
  refine sg rfl (y_move rfl rfl) ?_
  refine sg rfl (y_call rfl rfl rfl cf84 (fun hg w _ => TrimHex_any s (by simp only [Bool.true_and, Bool.and_eq_true, beq_iff_eq, decide_eq_true_eq, decide_eq_false_iff_not, Int.not_lt, Int.not_le] at hg; omega) w)) ?_
  refine sg rfl (y_bin rfl rfl rfl (fun _ => b_eqls)) ?_
  refine s1 (y_and rfl rfl rfl) ?_
  refine sr 1 ?_
  refine sgo ?_
  refine tr1 hRb fun w hM => ?_
  exact ⟨rfl, hM.below⟩
theorem eoutside_any (n lo hi : Int) (w : World) :
    Calls Tryz.prog 90 #[.int .i64 n, .int .i64 lo, .int .i64 hi] w fun e w' => e = .returned (.bool (decide (n < lo) || decide (hi < n))) ∧ Below w.heap.size w w' := by
  refine enter_args (args := [.int .i64 n, .int .i64 lo, .int .i64 hi]) (F := _) Tryz.func90 rfl Tryz.ntmps90 rfl rfl ?_
  intro Rb hRb hRn
  refine tx ?_
  refine sr 1 ?_
  refine sgx ?_
  refine sr 4 ?_
  refine sg rfl (y_move rfl rfl) ?_
  refine sg rfl (y_move rfl rfl) ?_
  refine sg rfl (y_bin rfl rfl rfl (fun _ => b_gtr)) ?_
  refine s1 (y_or rfl rfl rfl) ?_
  refine sr 1 ?_
  refine sgo ?_
  refine tr1 hRb fun w hM => ?_
  exact ⟨rfl, hM.below⟩
theorem IsName_any (s : List UInt8) (w : World) :
    Calls Tryz.prog 67 #[str s] w fun e w' => e = .returned (.bool (nameOk s)) ∧ Below w.heap.size w w' := by
  refine enter_args (args := [str s]) (F := _) Tryz.func67 rfl Tryz.ntmps67 rfl rfl ?_
  intro Rb hRb hRn
  refine tx ?_
  refine sr 1 ?_
  refine sgs ?_
  refine tx ?_
  refine sr 1 ?_
  refine s1 (y_len_str rfl rfl Tryz.underlying9) ?_
  refine sr 2 ?_
  refine sg rfl (y_move rfl rfl) ?_
  refine sg rfl (y_len_str rfl rfl Tryz.underlying9) ?_
  refine sg rfl (y_bin rfl rfl rfl (fun _ => b_gtr)) ?_
  refine s1 (y_or rfl rfl rfl) ?_
  refine sr 1 ?_
  refine sg rfl (y_move rfl rfl) ?_
  refine sg rfl (y_index_str (j := 0) rfl rfl rfl Tryz.underlying9 (fun hg => List.length_pos_iff.2 (fun e => by subst e; simp at hg))) ?_
  refine sg rfl (y_bin rfl rfl rfl (fun _ => b_lss)) ?_
  refine s1 (y_or rfl rfl rfl) ?_
  refine sr 1 ?_
  refine sg rfl (y_move rfl rfl) ?_
  refine sg rfl (y_index_str (j := 0) rfl rfl rfl Tryz.underlying9 (fun hg => List.length_pos_iff.2 (fun e => by subst e; simp at hg))) ?_
  refine sg rfl (y_bin rfl rfl rfl (fun _ => b_gtr)) ?_
  refine s1 (y_or rfl rfl rfl) ?_
  refine sgo ?_
  refine T_cond rfl ?_ ?_ <;> intro h20
  · skip
    refine tx ?_
    refine sr 1 ?_
    refine sgo ?_
    refine tr1 hRb fun w hM => ?_
    exact ⟨by rw [name_t h20], hM.below⟩
  have hn := name_f h20
  have hl := hn.1
  refine kgx ?_
  refine sr 1 ?_
  refine s1 (y_call rfl rfl rfl cf84 (fun _ w _ => TrimName_any s (by omega) w)) ?_
  refine s1 (y_bin rfl rfl rfl (fun _ => b_eqls)) ?_
  refine sr 1 ?_
  refine sgo ?_
  refine tr1 hRb fun w hM => ?_
  exact ⟨by rw [← hn.2], hM.below⟩
theorem checkValue_any (s : List UInt8) (hs : s.length ≤ 4611686018427387904) (w : World) :
    Calls Tryz.prog 89 #[str s] w fun e w' => e = .returned (.int .i64 (valNo s)) ∧ Below w.heap.size w w' := by
  refine enter_args (args := [str s]) (F := _) Tryz.func89 rfl Tryz.ntmps89 rfl rfl ?_
  intro Rb hRb hRn
  refine tx ?_
  refine sr 1 ?_
  refine sgs ?_
  refine tx ?_
  refine sr 1 ?_
  refine s1 (y_len_str rfl rfl Tryz.underlying9) ?_
  refine sr 1 ?_
  refine sgo ?_
  refine T_cond rfl ?_ ?_ <;> intro h6
  · try simp only [nrm] at h6
    refine tx ?_
    refine sr 1 ?_
    refine sgo ?_
    refine tr1 hRb fun w hM => ?_
    exact ⟨by rw [valNo, if_pos (by omega)], hM.below⟩
  try simp only [nrm] at h6
  refine kgs ?_
  refine tx ?_
  refine sr 1 ?_
  refine s1 (y_len_str rfl rfl Tryz.underlying9) ?_
  refine sr 1 ?_
  refine sgo ?_
  refine T_block ?_
  refine lK1 (kf := [(2, 3), (9, 22)]) (kl := [(2, 3), (9, 22)]) (fun (i : Nat) => [(9, true, .int .i64 (i : Int))]) (fun (i : Nat) => []) (fun (i : Nat) => i ≤ s.length ∧ s.any valBad = (s.drop i).any valBad) (fun (i : Nat) => s.length - i) 0 ?_ ?_ ?_ ?_
  · exact ⟨by omega, rfl⟩
  · exact ⟨rfl, trivial⟩
  · exact trivial
  rintro i ⟨hp1, hp2⟩
  refine tx ?_
  refine sr 1 ?_
  refine sgs ?_
  refine T_cond rfl ?_ ?_ <;> intro h10
  · try simp only [nrm] at h10
    refine kgs ?_
    refine T_block ?_
    refine tx ?_
    refine sr 2 ?_
    refine sgx ?_
    refine sr 2 ?_
    refine s1 (y_index_str rfl rfl rfl Tryz.underlying9 (fun _ => by omega)) ?_
    refine sr 2 ?_
    refine sg rfl (y_move rfl rfl) ?_
    refine sg rfl (y_move rfl rfl) ?_
    refine sg rfl (y_index_str rfl rfl rfl Tryz.underlying9 (fun hg => by simp only [Bool.true_and, Bool.and_eq_true, beq_iff_eq, decide_eq_true_eq, decide_eq_false_iff_not, Int.not_lt, Int.not_le] at hg; omega)) ?_
    refine sg rfl (y_bin rfl rfl rfl (fun _ => b_gtr)) ?_
    refine s1 (y_as (v' := .bool (valBad (s.getD i 0))) (by exact rfl) (y_or rfl rfl rfl)) ?_
    refine sgo ?_
    refine T_cond rfl ?_ ?_ <;> intro h21
    · skip
      refine tx ?_
      refine sr 1 ?_
      refine sgo ?_
      refine tr1 hRb fun w hM => ?_
      exact ⟨by rw [valNo, if_neg (by omega), if_pos (by rw [hp2, drop_str (by omega), any_t h21])], hM.below⟩
    refine kgr ?_
    refine s1 (y_bin rfl rfl rfl (fun hg => b_add (by omega))) ?_
    refine sr 1 ?_
    refine S_nil (nK1 (kf := [(2, 3), (9, 22)]) (kl := [(2, 3), (9, 22)]) (i + 1) ?_ ?_ ?_ ?_)
    · omega
    · exact ⟨by omega, by rw [hp2, drop_str (by omega), any_f h21]⟩
    · exact ⟨rfl, trivial⟩
    · exact trivial
  try simp only [nrm] at h10
  refine egx ?_
  refine sr 1 ?_
  refine sgo ?_
  refine tr1 hRb fun w hM => ?_
  exact ⟨by rw [valNo, if_neg (by omega), if_neg (by rw [hp2, List.drop_eq_nil_of_le (by omega)]; simp)], hM.below⟩
theorem checkSay_any (s : List UInt8) (hs : s.length ≤ 4611686018427387904) (w : World) :
    Calls Tryz.prog 135 #[str s] w fun e w' => e = .returned (.int .i64 (sayNo s)) ∧ Below w.heap.size w w' := by
  refine enter_args (args := [str s]) (F := _) Tryz.func135 rfl Tryz.ntmps135 rfl rfl ?_
  intro Rb hRb hRn
  refine tx ?_
  refine sr 1 ?_
  refine sgs ?_
  refine tx ?_
  refine sr 1 ?_
  refine s1 (y_len_str rfl rfl Tryz.underlying9) ?_
  refine sr 1 ?_
  refine sgo ?_
  refine T_cond rfl ?_ ?_ <;> intro h6
  · try simp only [nrm] at h6
    refine tx ?_
    refine sr 1 ?_
    refine sgo ?_
    refine tr1 hRb fun w hM => ?_
    exact ⟨by rw [sayNo, if_pos (by omega)], hM.below⟩
  try simp only [nrm] at h6
  refine kgs ?_
  refine tx ?_
  refine sr 1 ?_
  refine s1 (y_len_str rfl rfl Tryz.underlying9) ?_
  refine sr 1 ?_
  refine sgo ?_
  refine T_block ?_
  refine lK1 (kf := [(2, 3), (9, 22)]) (kl := [(2, 3), (9, 22)]) (fun (i : Nat) => [(9, true, .int .i64 (i : Int))]) (fun (i : Nat) => []) (fun (i : Nat) => i ≤ s.length ∧ s.any sayBad = (s.drop i).any sayBad) (fun (i : Nat) => s.length - i) 0 ?_ ?_ ?_ ?_
  · exact ⟨by omega, rfl⟩
  · exact ⟨rfl, trivial⟩
  · exact trivial
  rintro i ⟨hp1, hp2⟩
  refine tx ?_
  refine sr 1 ?_
  refine sgs ?_
  refine T_cond rfl ?_ ?_ <;> intro h10
  · try simp only [nrm] at h10
    refine kgs ?_
    refine T_block ?_
    refine tx ?_
    refine sr 2 ?_
    refine sgx ?_
    refine sr 2 ?_
    refine s1 (y_index_str rfl rfl rfl Tryz.underlying9 (fun _ => by omega)) ?_
    refine sr 2 ?_
    refine sg rfl (y_move rfl rfl) ?_
    refine sg rfl (y_move rfl rfl) ?_
    refine sg rfl (y_index_str rfl rfl rfl Tryz.underlying9 (fun hg => by simp only [Bool.true_and, Bool.and_eq_true, beq_iff_eq, decide_eq_true_eq, decide_eq_false_iff_not, Int.not_lt, Int.not_le] at hg; omega)) ?_
    refine sg rfl (y_bin rfl rfl rfl (fun _ => b_eql)) ?_
    refine s1 (y_as (v' := .bool (sayBad (s.getD i 0))) (by exact rfl) (y_or rfl rfl rfl)) ?_
    refine sgo ?_
    refine T_cond rfl ?_ ?_ <;> intro h21
    · skip
      refine tx ?_
      refine sr 1 ?_
      refine sgo ?_
      refine tr1 hRb fun w hM => ?_
      exact ⟨by rw [sayNo, if_neg (by omega), if_pos (by rw [hp2, drop_str (by omega), any_t h21])], hM.below⟩
    refine kgr ?_
    refine s1 (y_bin rfl rfl rfl (fun hg => b_add (by omega))) ?_
    refine sr 1 ?_
    refine S_nil (nK1 (kf := [(2, 3), (9, 22)]) (kl := [(2, 3), (9, 22)]) (i + 1) ?_ ?_ ?_ ?_)
    · omega
    · exact ⟨by omega, by rw [hp2, drop_str (by omega), any_f h21]⟩
    · exact ⟨rfl, trivial⟩
    · exact trivial
  try simp only [nrm] at h10
  refine egx ?_
  refine sr 1 ?_
  refine sgo ?_
  refine tr1 hRb fun w hM => ?_
  exact ⟨by rw [sayNo, if_neg (by omega), if_neg (by rw [hp2, List.drop_eq_nil_of_le (by omega)]; simp)], hM.below⟩
theorem CheckFault_any (f : Flt) (w : World) (hf : FltOk w f) :
    Calls Tryz.prog 134 #[f.val] w fun e w' => e = .returned (.int .i64 (fltNo f)) ∧ Below w.heap.size w w' := by
  have hk := hf.k
  have htl := hf.t
  refine enter_args (args := [.agg #[str f.k, str f.t, .slice f.fr.A f.fr.q f.fr.c]]) (F := _) Tryz.func134 rfl Tryz.ntmps134 rfl rfl ?_
  intro Rb hRb hRn
  refine tx ?_
  refine S_box 1 1 rfl rfl rfl rfl rfl ?_
  intro b1
  refine sr 1 ?_
  refine sgs ?_
  refine T_block ?_
  refine tx ?_
  refine s1 (yF fa100_0) ?_
  refine s1 (yL 1 Tryz.underlying9) ?_
  refine s1 (y_len_str rfl rfl Tryz.underlying9) ?_
  refine sr 2 ?_
  refine sgo ?_
  refine T_cond rfl ?_ ?_ <;> intro h4
  · try simp only [nrm] at h4
    refine tx ?_
    refine sr 1 ?_
    refine sgo ?_
    refine tr1 hRb fun w hM => ?_
    exact ⟨by rw [fltNo, if_pos (by omega)], hM.below⟩
  try simp only [nrm] at h4
  refine tx ?_
  refine s1 (yF fa100_0) ?_
  refine s1 (yL 1 Tryz.underlying9) ?_
  refine s1 (y_call rfl rfl rfl cf211 (fun hg w _ => isWord_any _ _ (by first | omega | (have := hsz; omega)) w)) ?_
  refine sr 2 ?_
  refine sgo ?_
  refine T_cond rfl ?_ ?_ <;> intro h9
  · try simp only [nrm] at h9
    refine tx ?_
    refine sr 1 ?_
    refine sgo ?_
    refine tr1 hRb fun w hM => ?_
    exact ⟨by rw [fltNo, if_neg (by omega), if_pos h9], hM.below⟩
  try simp only [nrm] at h9
  refine tx ?_
  refine s1 (yF fa100_0) ?_
  refine s1 (yL 1 Tryz.underlying9) ?_
  refine s1 (y_bin rfl rfl rfl (fun _ => b_eqls)) ?_
  refine sr 1 ?_
  refine sgo ?_
  refine T_cond rfl ?_ ?_ <;> intro h14
  · try simp only [nrm] at h14
    refine tx ?_
    refine sr 1 ?_
    refine sgo ?_
    refine tr1 hRb fun w hM => ?_
    exact ⟨by rw [fltNo, if_neg (by omega), if_neg (by rw [h9]; simp), if_pos h14], hM.below⟩
  try simp only [nrm] at h14
  refine tx ?_
  refine s1 (yF fa100_1) ?_
  refine s1 (yL 1 Tryz.underlying9) ?_
  refine s1 (y_len_str rfl rfl Tryz.underlying9) ?_
  refine sr 2 ?_
  refine sgo ?_
  refine T_cond rfl ?_ ?_ <;> intro h18
  · try simp only [nrm] at h18
    refine tx ?_
    refine sr 1 ?_
    refine sgo ?_
    refine tr1 hRb fun w hM => ?_
    exact ⟨by rw [fltNo_say (by omega) h9 h14 (k := 4) (by rw [sayNo, if_pos (by omega)]) (by decide)], hM.below⟩
  try simp only [nrm] at h18
  refine kgs ?_
  refine tx ?_
  refine s1 (yF fa100_1) ?_
  refine s1 (yL 1 Tryz.underlying9) ?_
  refine s1 (y_len_str rfl rfl Tryz.underlying9) ?_
  refine sr 1 ?_
  refine sgo ?_
  refine T_block ?_
  refine lK1 (kf := [(2, 3), (26, 41)]) (kl := [(2, 3), (26, 41)]) (fun (i : Nat) => [(26, true, .int .i64 (i : Int))]) (fun (i : Nat) => []) (fun (i : Nat) => i ≤ f.t.length ∧ f.t.any sayBad = (f.t.drop i).any sayBad) (fun (i : Nat) => f.t.length - i) 0 ?_ ?_ ?_ ?_
  · exact ⟨by omega, rfl⟩
  · exact ⟨rfl, trivial⟩
  · exact trivial
  rintro i ⟨hp1, hp2⟩
  refine tx ?_
  refine sr 1 ?_
  refine sgs ?_
  refine T_cond rfl ?_ ?_ <;> intro h27
  · try simp only [nrm] at h27
    refine kgs ?_
    refine T_block ?_
    refine tx ?_
    refine sr 2 ?_
    refine sgx ?_
    refine s1 (yF fa100_1) ?_
    refine s1 (yL 1 Tryz.underlying9) ?_
    refine sr 1 ?_
    refine s1 (y_index_str rfl rfl rfl Tryz.underlying9 (fun _ => by omega)) ?_
    refine sr 2 ?_
    refine sg rfl (yF fa100_1) ?_
    refine sg rfl (yL 1 Tryz.underlying9) ?_
    refine sg rfl (y_move rfl rfl) ?_
    refine sg rfl (y_index_str rfl rfl rfl Tryz.underlying9 (fun hg => by simp only [Bool.true_and, Bool.and_eq_true, beq_iff_eq, decide_eq_true_eq, decide_eq_false_iff_not, Int.not_lt, Int.not_le] at hg; omega)) ?_
    refine sg rfl (y_bin rfl rfl rfl (fun _ => b_eql)) ?_
    refine s1 (y_as (v' := .bool (sayBad (f.t.getD i 0))) (by exact rfl) (y_or rfl rfl rfl)) ?_
    refine sgo ?_
    refine T_cond rfl ?_ ?_ <;> intro h40
    · skip
      refine tx ?_
      refine sr 1 ?_
      refine sgo ?_
      refine tr1 hRb fun w hM => ?_
      exact ⟨by rw [fltNo_say (by omega) h9 h14 (k := 9) (by rw [sayNo, if_neg (by omega), if_pos (by rw [hp2, drop_str (by omega), any_t h40])]) (by decide)], hM.below⟩
    refine kgr ?_
    refine s1 (y_bin rfl rfl rfl (fun hg => b_add (by omega))) ?_
    refine sr 1 ?_
    refine S_nil (nK1 (kf := [(2, 3), (26, 41)]) (kl := [(2, 3), (26, 41)]) (i + 1) ?_ ?_ ?_ ?_)
    · omega
    · exact ⟨by omega, by rw [hp2, drop_str (by omega), any_f h40]⟩
    · exact ⟨rfl, trivial⟩
    · exact trivial
  try simp only [nrm] at h27
  refine egx ?_
  refine s1 (yF fa100_2) ?_
  refine s1 (yL 1 Tryz.underlying98) ?_
  refine s1 (y_call rfl rfl rfl cf212 (fun _ w hM => checkFrames_any _ w (hf.fr.below hM.below))) ?_
  refine sr 1 ?_
  refine sgo ?_
  refine tr1 hRb fun w hM => ?_
  exact ⟨by rw [fltNo_frs (by omega) h9 h14 (by rw [sayNo, if_neg (by omega), if_neg (by rw [hp2, List.drop_eq_nil_of_le (by omega)]; simp)])], hM.below⟩
theorem sCheck_any (l : Sl Flt) (w : World) (hl : FltsOk w l) :
    Calls Tryz.prog 86 #[.slice l.A l.q l.c] w fun e w' => e = .returned (.int .i64 (faultsNo l)) ∧ Below w.heap.size w w' := by
  have ht := hl.ok.t
  have hq := hl.q
  refine enter_args (args := [.slice l.A l.q l.c]) (F := _) Tryz.func86 rfl Tryz.ntmps86 rfl rfl ?_
  intro Rb hRb hRn
  refine tx ?_
  refine sr 1 ?_
  refine sgs ?_
  refine T_block ?_
  refine tx ?_
  refine sr 1 ?_
  refine s1 (y_len_slice rfl rfl Tryz.underlying27) ?_
  refine sr 2 ?_
  refine sgo ?_
  refine T_cond rfl ?_ ?_ <;> intro h6
  · try simp only [nrm] at h6
    refine tx ?_
    refine sr 1 ?_
    refine sgo ?_
    refine tr1 hRb fun w hM => ?_
    exact ⟨by rw [faultsNo, if_pos (by omega)], hM.below⟩
  try simp only [nrm] at h6
  refine tx ?_
  refine sr 1 ?_
  refine s1 (y_len_slice rfl rfl Tryz.underlying27) ?_
  refine sr 2 ?_
  refine sgo ?_
  refine T_cond rfl ?_ ?_ <;> intro h10
  · try simp only [nrm] at h10
    refine tx ?_
    refine sr 1 ?_
    refine sgo ?_
    refine tr1 hRb fun w hM => ?_
    exact ⟨by rw [faultsNo, if_neg (by omega), if_pos (by omega)], hM.below⟩
  try simp only [nrm] at h10
  refine kgs ?_
  refine tx ?_
  refine sr 1 ?_
  refine s1 (y_len_slice rfl rfl Tryz.underlying27) ?_
  refine sr 1 ?_
  refine sgo ?_
  refine T_block ?_
  refine lK1 (kf := [(2, 2), (4, 5), (16, 25)]) (kl := [(2, 2), (4, 5), (16, 25)]) (fun (i : Nat) => [(16, true, .int .i64 (i : Int))]) (fun (i : Nat) => []) (fun (i : Nat) => i ≤ l.q ∧ fltsNo l.l = fltsNo (l.l.drop i)) (fun (i : Nat) => l.q - i) 0 ?_ ?_ ?_ ?_
  · exact ⟨by omega, rfl⟩
  · exact ⟨rfl, trivial⟩
  · exact trivial
  rintro i ⟨hp1, hp2⟩
  refine tx ?_
  refine sr 1 ?_
  refine sgs ?_
  refine T_cond rfl ?_ ?_ <;> intro h17
  · try simp only [nrm] at h17
    obtain ⟨x, hx1, hx2⟩ := ht.at (i := i) (by omega)
    refine kgs ?_
    refine T_block ?_
    refine tx ?_
    refine s1 (y_indexAddr rfl rfl rfl Tryz.underlying27 sz100 (fun hg => ht.isSome (by omega)) (fun _ => by omega)) ?_
    refine s1 (y_loadT rfl rfl ht (fun _ => rfl) (fun _ => hx1) Tryz.underlying100 rfl sz100) ?_
    refine S_alloc 4 4 rfl rfl rfl rfl z100 ?_
    intro b4
    refine S_store 4 rfl rfl rfl rfl rfl rfl sz100 rfl rfl ?_
    refine sgx ?_
    refine s1 (yA 4 rfl Tryz.underlying100 sz100) ?_
    refine s1 (y_call rfl rfl rfl cf134 (fun _ w hM => CheckFault_any x w ((hl.n x (mem_at hx1)).below hM.below))) ?_
    refine sr 1 ?_
    refine sgx ?_
    refine sr 2 ?_
    refine sgo ?_
    refine T_cond rfl ?_ ?_ <;> intro h23
    · try simp only [nrm] at h23
      refine tx ?_
      refine sr 2 ?_
      refine sgo ?_
      refine tr1 hRb fun w hM => ?_
      exact ⟨by rw [faultsNo, if_neg (by omega), if_neg (by omega), hp2, hx2, fltsNo, if_pos h23], hM.below⟩
    try simp only [nrm] at h23
    refine kgr ?_
    refine s1 (y_bin rfl rfl rfl (fun hg => b_add (by omega))) ?_
    refine sr 1 ?_
    refine S_nil (nK1 (kf := [(2, 2), (4, 5), (16, 25)]) (kl := [(2, 2), (4, 5), (16, 25)]) (i + 1) ?_ ?_ ?_ ?_)
    · omega
    · exact ⟨by omega, by rw [hp2, hx2, fltsNo, if_neg (by simpa using h23)]⟩
    · exact ⟨rfl, trivial⟩
    · exact trivial
  try simp only [nrm] at h17
  refine egx ?_
  refine sr 1 ?_
  refine sgo ?_
  refine tr1 hRb fun w hM => ?_
  exact ⟨by rw [faultsNo, if_neg (by omega), if_neg (by omega), hp2, ht.end (by omega)]; rfl, hM.below⟩
theorem checkTags_any (l : Sl STag) (w : World) (hl : TagsOk w l) :
    Calls Tryz.prog 87 #[.slice l.A l.q l.c] w fun e w' => e = .returned (.int .i64 (if (40 : Int) < l.q then 4 else tagsNo none l.l)) ∧ Below w.heap.size w w' := by
  have ht := hl.ok.t
  have hq := hl.q
  refine enter_args (args := [.slice l.A l.q l.c]) (F := _) Tryz.func87 rfl Tryz.ntmps87 rfl rfl ?_
  intro Rb hRb hRn
  refine tx ?_
  refine sr 1 ?_
  refine sgs ?_
  refine tx ?_
  refine sr 1 ?_
  refine s1 (y_len_slice rfl rfl Tryz.underlying28) ?_
  refine sr 1 ?_
  refine sgo ?_
  refine T_cond rfl ?_ ?_ <;> intro h8
  · try simp only [nrm] at h8
    refine tx ?_
    refine sr 1 ?_
    refine sgo ?_
    refine tr1 hRb fun w hM => ?_
    exact ⟨by rw [if_pos (by omega)], hM.below⟩
  try simp only [nrm] at h8
  refine kgs ?_
  refine tx ?_
  refine sr 1 ?_
  refine s1 (y_len_slice rfl rfl Tryz.underlying28) ?_
  refine sr 1 ?_
  refine sgo ?_
  refine T_block ?_
  refine lK2 (kf := [(2, 5), (11, 39)]) (kl := [(2, 5), (11, 39)]) (fun (i : Nat) (b : STag) => [(11, true, .int .i64 (i : Int))]) (fun (i : Nat) (b : STag) => []) (fun (i : Nat) (b : STag) => i ≤ l.q ∧ tagsNo none l.l = tagsNo (prevN i b) (l.l.drop i) ∧ (0 < i → l.l[i - 1]? = some b)) (fun (i : Nat) (b : STag) => l.q - i) 0 ⟨[], []⟩ ?_ ?_ ?_ ?_
  · exact ⟨by omega, rfl, by omega⟩
  · exact ⟨rfl, trivial⟩
  · exact trivial
  rintro i b ⟨hp1, hp2, hp3⟩
  refine tx ?_
  refine sr 1 ?_
  refine sgs ?_
  refine T_cond rfl ?_ ?_ <;> intro h12
  · try simp only [nrm] at h12
    obtain ⟨x, hx1, hx2⟩ := ht.at (i := i) (by omega)
    have hn := hl.n x (mem_at hx1)
    have hn2 := hn.2
    refine kgs ?_
    refine T_block ?_
    refine tx ?_
    refine sr 1 ?_
    refine s1 (y_indexAddr rfl rfl rfl Tryz.underlying28 sz92 (fun hg => ht.isSome (by omega)) (fun _ => by omega)) ?_
    refine s1 (y_loadT rfl rfl ht (fun _ => rfl) (fun _ => hx1) Tryz.underlying92 rfl sz92) ?_
    refine S_alloc 4 4 rfl rfl rfl rfl z92 ?_
    intro b4
    refine sr 1 ?_
    refine S_store 4 rfl rfl rfl rfl rfl rfl sz92 rfl rfl ?_
    refine sgs ?_
    refine tx ?_
    refine s1 (yF fa92_0) ?_
    refine s1 (yL 4 Tryz.underlying9) ?_
    refine s1 (y_call rfl rfl rfl cf67 (fun _ w _ => IsName_any _ w)) ?_
    refine sr 1 ?_
    refine sgo ?_
    refine T_cond rfl ?_ ?_ <;> intro h19
    · try simp only [nrm] at h19
      refine tx ?_
      refine sr 1 ?_
      refine sgo ?_
      refine tr1 hRb fun w hM => ?_
      exact ⟨by rw [if_neg (by omega), hp2, hx2, tagsNo, if_pos h19], hM.below⟩
    try simp only [nrm] at h19
    refine kgs ?_
    refine T_seq ?_
    refine T_draws (by kernel_rfl) (by kernel_rfl) ?_
    refine d1 (y_move rfl rfl) ?_
    refine d1 (y_bin rfl rfl rfl (fun _ => b_gtr)) ?_
    refine d1 (y_move rfl rfl) ?_
    refine dg rfl (yF fa92_0) ?_
    refine dg rfl (yL 4 Tryz.underlying9) ?_
    refine dg rfl (y_move rfl rfl) ?_
    refine dg rfl (y_move rfl rfl) ?_
    refine dg rfl (y_bin rfl rfl rfl (fun hg => b_subv (((i - 1 : Nat) : Int)) (by simp only [Bool.true_and, Bool.and_eq_true, beq_iff_eq, decide_eq_true_eq, decide_eq_false_iff_not, Int.not_lt, Int.not_le] at hg; omega) (by simp only [Bool.true_and, Bool.and_eq_true, beq_iff_eq, decide_eq_true_eq, decide_eq_false_iff_not, Int.not_lt, Int.not_le] at hg; omega))) ?_
    refine dg rfl (y_indexAddr rfl rfl rfl Tryz.underlying28 sz92 (fun hg => ht.isSome (by simp only [Bool.true_and, Bool.and_eq_true, beq_iff_eq, decide_eq_true_eq, decide_eq_false_iff_not, Int.not_lt, Int.not_le] at hg; omega)) (fun hg => by simp only [Bool.true_and, Bool.and_eq_true, beq_iff_eq, decide_eq_true_eq, decide_eq_false_iff_not, Int.not_lt, Int.not_le] at hg; omega)) ?_
    refine dg rfl (y_fieldEl rfl rfl ht.rd (fun hg => by simp only [Bool.true_and, Bool.and_eq_true, beq_iff_eq, decide_eq_true_eq, decide_eq_false_iff_not, Int.not_lt, Int.not_le] at hg; omega) fa92_0) ?_
    refine dg rfl (y_load_fT rfl rfl ht (fun _ => rfl) (fun hg => hp3 (by simp only [Bool.true_and, Bool.and_eq_true, beq_iff_eq, decide_eq_true_eq, decide_eq_false_iff_not, Int.not_lt, Int.not_le] at hg; omega)) rfl Tryz.underlying9 rfl) ?_
    refine dg rfl (y_bin rfl rfl rfl (fun _ => b_leqs)) ?_
    refine d1 (y_as (v' := .bool ((prevN i b).any fun s => Op.bytesLess x.n s || decide (x.n = s))) (by rw [prevN_any]) (y_and rfl rfl rfl)) ?_
    refine dgo ?_
    refine T_cond rfl ?_ ?_ <;> intro h32
    · skip
      refine tx ?_
      refine sr 1 ?_
      refine sgo ?_
      refine tr1 hRb fun w hM => ?_
      exact ⟨by rw [if_neg (by omega), hp2, hx2, tagsNo, if_neg (by rw [h19]; simp), if_t h32], hM.below⟩
    refine kgx ?_
    refine s1 (yF fa92_1) ?_
    refine s1 (yL 4 Tryz.underlying9) ?_
    refine s1 (y_call rfl rfl rfl cf89 (fun _ w _ => checkValue_any _ (by first | omega | (simp; done) | (simp; omega) | (simp only; omega)) w)) ?_
    refine sr 1 ?_
    refine sgx ?_
    refine sr 2 ?_
    refine sgo ?_
    refine T_cond rfl ?_ ?_ <;> intro h37
    · try simp only [nrm] at h37
      refine tx ?_
      refine sr 2 ?_
      refine sgo ?_
      refine tr1 hRb fun w hM => ?_
      exact ⟨by rw [if_neg (by omega), hp2, hx2, tagsNo, if_neg (by rw [h19]; simp), if_f h32, if_pos h37], hM.below⟩
    try simp only [nrm] at h37
    refine kgr ?_
    refine s1 (y_bin rfl rfl rfl (fun hg => b_add (by omega))) ?_
    refine sr 1 ?_
    refine S_nil (nK2 (kf := [(2, 5), (11, 39)]) (kl := [(2, 5), (11, 39)]) (i + 1) x ?_ ?_ ?_ ?_)
    · omega
    · exact ⟨by omega, by rw [hp2, hx2, tagsNo, if_neg (by rw [h19]; simp), if_f h32, if_neg (by simpa using h37)]; rfl, fun _ => hx1⟩
    · exact ⟨rfl, trivial⟩
    · exact trivial
  try simp only [nrm] at h12
  refine egx ?_
  refine sr 1 ?_
  refine sgo ?_
  refine tr1 hRb fun w hM => ?_
  exact ⟨by rw [if_neg (by omega), hp2, ht.end (by omega), tagsNo_nil], hM.below⟩
theorem checkCrumbs_any (l : Sl SCrumb) (w : World) (hl : CrumbsOk w l) :
    Calls Tryz.prog 88 #[.slice l.A l.q l.c] w fun e w' => e = .returned (.int .i64 (if (50 : Int) < l.q then 4 else crumbsNo none l.l)) ∧ Below w.heap.size w w' := by
  have ht := hl.ok.t
  have hq := hl.q
  refine enter_args (args := [.slice l.A l.q l.c]) (F := _) Tryz.func88 rfl Tryz.ntmps88 rfl rfl ?_
  intro Rb hRb hRn
  refine tx ?_
  refine sr 1 ?_
  refine sgs ?_
  refine tx ?_
  refine sr 1 ?_
  refine s1 (y_len_slice rfl rfl Tryz.underlying29) ?_
  refine sr 1 ?_
  refine sgo ?_
  refine T_cond rfl ?_ ?_ <;> intro h8
  · try simp only [nrm] at h8
    refine tx ?_
    refine sr 1 ?_
    refine sgo ?_
    refine tr1 hRb fun w hM => ?_
    exact ⟨by rw [if_pos (by omega)], hM.below⟩
  try simp only [nrm] at h8
  refine kgs ?_
  refine tx ?_
  refine sr 1 ?_
  refine s1 (y_len_slice rfl rfl Tryz.underlying29) ?_
  refine sr 1 ?_
  refine sgo ?_
  refine T_block ?_
  refine lK2 (kf := [(2, 5), (11, 45)]) (kl := [(2, 5), (11, 45)]) (fun (i : Nat) (b : SCrumb) => [(11, true, .int .i64 (i : Int))]) (fun (i : Nat) (b : SCrumb) => []) (fun (i : Nat) (b : SCrumb) => i ≤ l.q ∧ crumbsNo none l.l = crumbsNo (prevA i b) (l.l.drop i) ∧ (0 < i → l.l[i - 1]? = some b)) (fun (i : Nat) (b : SCrumb) => l.q - i) 0 ⟨0, [], []⟩ ?_ ?_ ?_ ?_
  · exact ⟨by omega, rfl, by omega⟩
  · exact ⟨rfl, trivial⟩
  · exact trivial
  rintro i b ⟨hp1, hp2, hp3⟩
  refine tx ?_
  refine sr 1 ?_
  refine sgs ?_
  refine T_cond rfl ?_ ?_ <;> intro h12
  · try simp only [nrm] at h12
    obtain ⟨x, hx1, hx2⟩ := ht.at (i := i) (by omega)
    have hn := hl.n x (mem_at hx1)
    have hn2 := hn.2
    refine kgs ?_
    refine T_block ?_
    refine tx ?_
    refine sr 1 ?_
    refine s1 (y_indexAddr rfl rfl rfl Tryz.underlying29 sz95 (fun hg => ht.isSome (by omega)) (fun _ => by omega)) ?_
    refine s1 (y_loadT rfl rfl ht (fun _ => rfl) (fun _ => hx1) Tryz.underlying95 rfl sz95) ?_
    refine S_alloc 4 4 rfl rfl rfl rfl z95 ?_
    intro b4
    refine sr 1 ?_
    refine S_store 4 rfl rfl rfl rfl rfl rfl sz95 rfl rfl ?_
    refine sgs ?_
    refine T_block ?_
    refine tx ?_
    refine s1 (yF fa95_0) ?_
    refine s1 (yL 4 Tryz.underlying3) ?_
    refine s1 (y_call rfl rfl rfl cf90 (fun _ w _ => eoutside_any _ _ _ w)) ?_
    refine sr 1 ?_
    refine sgo ?_
    refine T_cond rfl ?_ ?_ <;> intro h16
    · skip
      refine tx ?_
      refine sr 1 ?_
      refine sgo ?_
      refine tr1 hRb fun w hM => ?_
      exact ⟨by rw [if_neg (by omega), hp2, hx2, crumbsNo, if_t h16], hM.below⟩
    refine T_seq ?_
    refine T_draws (by kernel_rfl) (by kernel_rfl) ?_
    refine d1 (y_move rfl rfl) ?_
    refine d1 (y_bin rfl rfl rfl (fun _ => b_gtr)) ?_
    refine d1 (y_move rfl rfl) ?_
    refine dg rfl (yF fa95_0) ?_
    refine dg rfl (yL 4 Tryz.underlying3) ?_
    refine dg rfl (y_move rfl rfl) ?_
    refine dg rfl (y_move rfl rfl) ?_
    refine dg rfl (y_bin rfl rfl rfl (fun hg => b_subv (((i - 1 : Nat) : Int)) (by simp only [Bool.true_and, Bool.and_eq_true, beq_iff_eq, decide_eq_true_eq, decide_eq_false_iff_not, Int.not_lt, Int.not_le] at hg; omega) (by simp only [Bool.true_and, Bool.and_eq_true, beq_iff_eq, decide_eq_true_eq, decide_eq_false_iff_not, Int.not_lt, Int.not_le] at hg; omega))) ?_
    refine dg rfl (y_indexAddr rfl rfl rfl Tryz.underlying29 sz95 (fun hg => ht.isSome (by simp only [Bool.true_and, Bool.and_eq_true, beq_iff_eq, decide_eq_true_eq, decide_eq_false_iff_not, Int.not_lt, Int.not_le] at hg; omega)) (fun hg => by simp only [Bool.true_and, Bool.and_eq_true, beq_iff_eq, decide_eq_true_eq, decide_eq_false_iff_not, Int.not_lt, Int.not_le] at hg; omega)) ?_
    refine dg rfl (y_fieldEl rfl rfl ht.rd (fun hg => by simp only [Bool.true_and, Bool.and_eq_true, beq_iff_eq, decide_eq_true_eq, decide_eq_false_iff_not, Int.not_lt, Int.not_le] at hg; omega) fa95_0) ?_
    refine dg rfl (y_load_fT rfl rfl ht (fun _ => rfl) (fun hg => hp3 (by simp only [Bool.true_and, Bool.and_eq_true, beq_iff_eq, decide_eq_true_eq, decide_eq_false_iff_not, Int.not_lt, Int.not_le] at hg; omega)) rfl Tryz.underlying3 rfl) ?_
    refine dg rfl (y_bin rfl rfl rfl (fun _ => b_lss)) ?_
    refine d1 (y_as (v' := .bool ((prevA i b).any fun n => decide (x.at_ < n))) (by rw [prevA_any]) (y_and rfl rfl rfl)) ?_
    refine d1 (y_assign rfl rfl) ?_
    refine dgo ?_
    refine T_cond rfl ?_ ?_ <;> intro h20
    · skip
      refine tx ?_
      refine sr 1 ?_
      refine sgo ?_
      refine tr1 hRb fun w hM => ?_
      exact ⟨by rw [if_neg (by omega), hp2, hx2, crumbsNo, if_f h16, if_t h20], hM.below⟩
    refine tx ?_
    refine s1 (yF fa95_1) ?_
    refine s1 (yL 4 Tryz.underlying9) ?_
    refine s1 (y_call rfl rfl rfl cf67 (fun _ w _ => IsName_any _ w)) ?_
    refine sr 2 ?_
    refine sgo ?_
    refine T_cond rfl ?_ ?_ <;> intro h34
    · try simp only [nrm] at h34
      refine tx ?_
      refine sr 1 ?_
      refine sgo ?_
      refine tr1 hRb fun w hM => ?_
      exact ⟨by rw [if_neg (by omega), hp2, hx2, crumbsNo, if_f h16, if_f h20, if_pos h34], hM.below⟩
    try simp only [nrm] at h34
    refine kgx ?_
    refine s1 (yF fa95_2) ?_
    refine s1 (yL 4 Tryz.underlying9) ?_
    refine s1 (y_call rfl rfl rfl cf135 (fun _ w _ => checkSay_any _ (by first | omega | (simp; done) | (simp; omega) | (simp only; omega)) w)) ?_
    refine sr 1 ?_
    refine sgx ?_
    refine sr 2 ?_
    refine sgo ?_
    refine T_cond rfl ?_ ?_ <;> intro h43
    · try simp only [nrm] at h43
      refine tx ?_
      refine sr 2 ?_
      refine sgo ?_
      refine tr1 hRb fun w hM => ?_
      exact ⟨by rw [if_neg (by omega), hp2, hx2, crumbsNo, if_f h16, if_f h20, if_neg (by rw [h34]; simp), if_pos h43], hM.below⟩
    try simp only [nrm] at h43
    refine kgr ?_
    refine s1 (y_bin rfl rfl rfl (fun hg => b_add (by omega))) ?_
    refine sr 1 ?_
    refine S_nil (nK2 (kf := [(2, 5), (11, 45)]) (kl := [(2, 5), (11, 45)]) (i + 1) x ?_ ?_ ?_ ?_)
    · omega
    · exact ⟨by omega, by rw [hp2, hx2, crumbsNo, if_f h16, if_f h20, if_neg (by rw [h34]; simp), if_neg (by simpa using h43)]; rfl, fun _ => hx1⟩
    · exact ⟨rfl, trivial⟩
    · exact trivial
  try simp only [nrm] at h12
  refine egx ?_
  refine sr 1 ?_
  refine sgo ?_
  refine tr1 hRb fun w hM => ?_
  exact ⟨by rw [if_neg (by omega), hp2, ht.end (by omega), crumbsNo_nil], hM.below⟩
theorem checkHead_any (e : Evt) (w : World) :
    Calls Tryz.prog 85 #[e.val] w fun en w' => en = .returned (.int .i64 (headNo e.id e.at_ e.lv)) ∧ Below w.heap.size w w' := by
  refine enter_args (args := [.agg #[str e.id, .int .i64 e.at_, .int .i64 e.lv, .slice e.fa.A e.fa.q e.fa.c, .slice e.ta.A e.ta.q e.ta.c, .slice e.cr.A e.cr.q e.cr.c, str e.rel, str e.us, .int .i64 e.wt]]) (F := _) Tryz.func85 rfl Tryz.ntmps85 rfl rfl ?_
  intro Rb hRb hRn
  refine tx ?_
  refine S_box 1 1 rfl rfl rfl rfl rfl ?_
  intro b1
  refine sr 1 ?_
  refine sgs ?_
  refine tx ?_
  refine s1 (yF fa31_0) ?_
  refine s1 (yL 1 Tryz.underlying9) ?_
  refine s1 (y_call rfl rfl rfl cf133 (fun _ w _ => isDigest_any _ w)) ?_
  refine sr 1 ?_
  refine sgo ?_
  refine T_cond rfl ?_ ?_ <;> intro h6
  · try simp only [nrm] at h6
    refine tx ?_
    refine sr 1 ?_
    refine sgo ?_
    refine tr1 hRb fun w hM => ?_
    exact ⟨by rw [headNo, if_pos h6], hM.below⟩
  try simp only [nrm] at h6
  refine kgs ?_
  refine tx ?_
  refine s1 (yF fa31_1) ?_
  refine s1 (yL 1 Tryz.underlying3) ?_
  refine s1 (y_call rfl rfl rfl cf90 (fun _ w _ => eoutside_any _ _ _ w)) ?_
  refine sr 1 ?_
  refine sg rfl (yF fa31_2) ?_
  refine sg rfl (yL 1 Tryz.underlying3) ?_
  refine sg rfl (y_call rfl rfl rfl cf90 (fun _ w _ => eoutside_any _ _ _ w)) ?_
  refine s1 (y_or rfl rfl rfl) ?_
  refine sgo ?_
  refine T_cond rfl ?_ ?_ <;> intro h14
  · skip
    refine tx ?_
    refine sr 1 ?_
    refine sgo ?_
    refine tr1 hRb fun w hM => ?_
    exact ⟨by rw [headNo, if_neg (by rw [h6]; simp), if_t h14], hM.below⟩
  refine kgx ?_
  refine sr 1 ?_
  refine sgo ?_
  refine tr1 hRb fun w hM => ?_
  exact ⟨by rw [headNo, if_neg (by rw [h6]; simp), if_f h14], hM.below⟩
theorem Check_any (e : Evt) (w : World) (he : e.Ok w) :
    Calls Tryz.prog 44 #[e.val] w fun en w' => en = .returned (.int .i64 (evNo e)) ∧ Below w.heap.size w w' := by
  have hus := he.us
  refine enter_args (args := [.agg #[str e.id, .int .i64 e.at_, .int .i64 e.lv, .slice e.fa.A e.fa.q e.fa.c, .slice e.ta.A e.ta.q e.ta.c, .slice e.cr.A e.cr.q e.cr.c, str e.rel, str e.us, .int .i64 e.wt]]) (F := _) Tryz.func44 rfl Tryz.ntmps44 rfl rfl ?_
  intro Rb hRb hRn
  refine tx ?_
  refine S_box 1 1 rfl rfl rfl rfl rfl ?_
  intro b1
  refine sr 1 ?_
  refine sgs ?_
  refine tx ?_
  refine s1 (yA 1 rfl Tryz.underlying31 sz31) ?_
  refine s1 (y_call rfl rfl rfl cf85 (fun _ w _ => checkHead_any e w)) ?_
  refine sr 1 ?_
  refine sgx ?_
  refine sr 2 ?_
  refine sgo ?_
  refine T_cond rfl ?_ ?_ <;> intro h11
  · try simp only [nrm] at h11
    refine tx ?_
    refine sr 2 ?_
    refine sgo ?_
    refine tr1 hRb fun w hM => ?_
    exact ⟨by rw [evNo, fst_t h11], hM.below⟩
  try simp only [nrm] at h11
  refine kgs ?_
  refine tx ?_
  refine s1 (yF fa31_3) ?_
  refine s1 (yL 1 Tryz.underlying27) ?_
  refine s1 (y_call rfl rfl rfl cf86 (fun _ w hM => sCheck_any e.fa w (he.fa.below hM.below))) ?_
  refine sr 1 ?_
  refine sgx ?_
  refine sr 2 ?_
  refine sgo ?_
  refine T_cond rfl ?_ ?_ <;> intro h17
  · try simp only [nrm] at h17
    refine tx ?_
    refine sr 2 ?_
    refine sgo ?_
    refine tr1 hRb fun w hM => ?_
    exact ⟨by rw [evNo, fst_f h11, fst_t h17], hM.below⟩
  try simp only [nrm] at h17
  refine kgs ?_
  refine tx ?_
  refine s1 (yF fa31_4) ?_
  refine s1 (yL 1 Tryz.underlying28) ?_
  refine s1 (y_call rfl rfl rfl cf87 (fun _ w hM => checkTags_any e.ta w (he.ta.below hM.below))) ?_
  refine sr 1 ?_
  refine sgx ?_
  refine sr 2 ?_
  refine sgo ?_
  refine T_cond rfl ?_ ?_ <;> intro h23
  · try simp only [nrm] at h23
    refine tx ?_
    refine sr 2 ?_
    refine sgo ?_
    refine tr1 hRb fun w hM => ?_
    exact ⟨by rw [evNo, fst_f h11, fst_f h17, fst_t h23], hM.below⟩
  try simp only [nrm] at h23
  refine kgs ?_
  refine tx ?_
  refine s1 (yF fa31_5) ?_
  refine s1 (yL 1 Tryz.underlying29) ?_
  refine s1 (y_call rfl rfl rfl cf88 (fun _ w hM => checkCrumbs_any e.cr w (he.cr.below hM.below))) ?_
  refine sr 1 ?_
  refine sgx ?_
  refine sr 2 ?_
  refine sgo ?_
  refine T_cond rfl ?_ ?_ <;> intro h29
  · try simp only [nrm] at h29
    refine tx ?_
    refine sr 2 ?_
    refine sgo ?_
    refine tr1 hRb fun w hM => ?_
    exact ⟨by rw [evNo, fst_f h11, fst_f h17, fst_f h23, fst_t h29], hM.below⟩
  try simp only [nrm] at h29
  refine kgs ?_
  refine tx ?_
  refine s1 (yF fa31_6) ?_
  refine s1 (yL 1 Tryz.underlying9) ?_
  refine s1 (y_bin rfl rfl rfl (fun _ => b_neqs)) ?_
  refine sr 1 ?_
  refine sg rfl (yF fa31_6) ?_
  refine sg rfl (yL 1 Tryz.underlying9) ?_
  refine sg rfl (y_call rfl rfl rfl cf67 (fun _ w _ => IsName_any _ w)) ?_
  refine sg rfl (y_not rfl rfl) ?_
  refine s1 (y_and rfl rfl rfl) ?_
  refine sgo ?_
  refine T_cond rfl ?_ ?_ <;> intro h39
  · skip
    refine tx ?_
    refine sr 1 ?_
    refine sgo ?_
    refine tr1 hRb fun w hM => ?_
    exact ⟨by rw [evNo, fst_f h11, fst_f h17, fst_f h23, fst_f h29, if_t h39], hM.below⟩
  refine kgs ?_
  refine tx ?_
  refine s1 (yF fa31_7) ?_
  refine s1 (yL 1 Tryz.underlying9) ?_
  refine s1 (y_call rfl rfl rfl cf89 (fun _ w _ => checkValue_any _ (by first | omega | (simp; done) | (simp; omega) | (simp only; omega)) w)) ?_
  refine sr 1 ?_
  refine sgx ?_
  refine sr 2 ?_
  refine sgo ?_
  refine T_cond rfl ?_ ?_ <;> intro h44
  · try simp only [nrm] at h44
    refine tx ?_
    refine sr 2 ?_
    refine sgo ?_
    refine tr1 hRb fun w hM => ?_
    exact ⟨by rw [evNo, fst_f h11, fst_f h17, fst_f h23, fst_f h29, if_f h39, fst_t h44], hM.below⟩
  try simp only [nrm] at h44
  refine kgs ?_
  refine tx ?_
  refine s1 (yF fa31_8) ?_
  refine s1 (yL 1 Tryz.underlying3) ?_
  refine s1 (y_call rfl rfl rfl cf90 (fun _ w _ => eoutside_any _ _ _ w)) ?_
  refine sgo ?_
  refine T_cond rfl ?_ ?_ <;> intro h48
  · skip
    refine tx ?_
    refine sr 1 ?_
    refine sgo ?_
    refine tr1 hRb fun w hM => ?_
    exact ⟨by rw [evNo, fst_f h11, fst_f h17, fst_f h23, fst_f h29, if_f h39, fst_f h44, if_t h48], hM.below⟩
  refine kgx ?_
  refine sr 1 ?_
  refine sgo ?_
  refine tr1 hRb fun w hM => ?_
  exact ⟨by rw [evNo, fst_f h11, fst_f h17, fst_f h23, fst_f h29, if_f h39, fst_f h44, if_f h48], hM.below⟩
end Go.Proofs.YtekbcbjimajnfaaGreatDoor
end
section
namespace Go.Proofs.YtekbcbjimajnfaaGreatDoor
set_option linter.unusedSimpArgs false
set_option linter.unusedVariables false
set_option maxRecDepth 20000
open Go.RowKit Go.Eng
def strE (l : List UInt8) : List Value := [str l]
/-- the value of a tag -/
def tagV (n : List UInt8) : List STag → List UInt8 × Bool
  | [] => ([], false)
  | t :: r => if t.n = n then (t.v, true) else tagV n r
theorem Tag_any (e : Evt) (n : List UInt8) (w : World) (he : e.Ok w) :
    Calls Tryz.prog 106 #[e.val, str n] w fun en w' => en = .returned (.tuple #[str (tagV n e.ta.l).1, .bool (tagV n e.ta.l).2]) ∧ Below w.heap.size w w' := by
  have ht := he.ta.ok.t
  have hq := he.ta.q
  refine enter_args (args := [.agg #[str e.id, .int .i64 e.at_, .int .i64 e.lv, .slice e.fa.A e.fa.q e.fa.c, .slice e.ta.A e.ta.q e.ta.c, .slice e.cr.A e.cr.q e.cr.c, str e.rel, str e.us, .int .i64 e.wt], str n]) (F := _) Tryz.func106 rfl Tryz.ntmps106 rfl rfl ?_
  intro Rb hRb hRn
  refine tx ?_
  refine S_box 2 2 rfl rfl rfl rfl rfl ?_
  intro b2
  refine sr 2 ?_
  refine sgs ?_
  refine tx ?_
  refine s1 (yF fa31_4) ?_
  refine s1 (yL 2 Tryz.underlying28) ?_
  refine s1 (y_len_slice rfl rfl Tryz.underlying28) ?_
  refine sr 1 ?_
  refine sgo ?_
  refine T_block ?_
  refine lK1 (kf := [(4, 5), (7, 7), (11, 21)]) (kl := [(4, 5), (7, 7), (11, 21)]) (fun (i : Nat) => [(11, true, .int .i64 (i : Int))]) (fun (i : Nat) => []) (fun (i : Nat) => i ≤ e.ta.q ∧ tagV n e.ta.l = tagV n (e.ta.l.drop i)) (fun (i : Nat) => e.ta.q - i) 0 ?_ ?_ ?_ ?_
  · exact ⟨by omega, rfl⟩
  · exact ⟨rfl, trivial⟩
  · exact trivial
  rintro i ⟨hp1, hp2⟩
  refine tx ?_
  refine sr 1 ?_
  refine sgs ?_
  refine T_cond rfl ?_ ?_ <;> intro h12
  · try simp only [nrm] at h12
    obtain ⟨x, hx1, hx2⟩ := ht.at (i := i) (by omega)
    refine kgs ?_
    refine T_block ?_
    refine tx ?_
    refine s1 (y_indexAddr rfl rfl rfl Tryz.underlying28 sz92 (fun hg => ht.isSome (by omega)) (fun _ => by omega)) ?_
    refine s1 (y_loadT rfl rfl ht (fun _ => rfl) (fun _ => hx1) Tryz.underlying92 rfl sz92) ?_
    refine S_alloc 7 7 rfl rfl rfl rfl z92 ?_
    intro b7
    refine S_store 7 rfl rfl rfl rfl rfl rfl sz92 rfl rfl ?_
    refine sgx ?_
    refine s1 (yF fa92_0) ?_
    refine s1 (yL 7 Tryz.underlying9) ?_
    refine sr 1 ?_
    refine s1 (y_bin rfl rfl rfl (fun _ => b_eqls)) ?_
    refine sgo ?_
    refine T_cond rfl ?_ ?_ <;> intro h18
    · try simp only [nrm] at h18
      refine tx ?_
      refine s1 (yF fa92_1) ?_
      refine s1 (yL 7 Tryz.underlying9) ?_
      refine sr 2 ?_
      refine sgo ?_
      refine tr2 hRb fun w hM => ?_
      exact ⟨by rw [hp2, hx2, tagV, if_pos h18], hM.below⟩
    try simp only [nrm] at h18
    refine kgr ?_
    refine s1 (y_bin rfl rfl rfl (fun hg => b_add (by omega))) ?_
    refine sr 1 ?_
    refine S_nil (nK1 (kf := [(4, 5), (7, 7), (11, 21)]) (kl := [(4, 5), (7, 7), (11, 21)]) (i + 1) ?_ ?_ ?_ ?_)
    · omega
    · exact ⟨by omega, by rw [hp2, hx2, tagV, if_neg h18]⟩
    · exact ⟨rfl, trivial⟩
    · exact trivial
  try simp only [nrm] at h12
  refine egx ?_
  refine sr 2 ?_
  refine sgo ?_
  refine tr2 hRb fun w hM => ?_
  exact ⟨by rw [hp2, ht.end (by omega)]; rfl, hM.below⟩
/-- the words of levels -/
def levels : List (List UInt8) := [[100, 101, 98, 117, 103], [110, 111, 116, 101], [119, 97, 114, 110, 105, 110, 103], [101, 114, 114, 111, 114], [102, 97, 116, 97, 108]]
theorem Levels_any (w : World) :
    Calls Tryz.prog 105 #[] w fun e w' => ∃ A c, e = .returned (.slice A 5 c) ∧ w'.ownsRow w.heap.size 9 1 (.slice A 5 c) 5 (levels.flatMap strE) ∧ Below w.heap.size w w' := by
  refine enter_args (args := []) (F := _) Tryz.func105 rfl Tryz.ntmps105 rfl rfl ?_
  intro Rb hRb hRn
  refine tx ?_
  refine S_nilSlice 0 (e := 9) (size := 1) ?_
  refine sr 1 ?_
  refine sgx ?_
  refine S_buildSlice 1 1 rfl rfl rfl rfl rfl Tryz.underlying49 inf9 rfl (by decide) (by decide) rfl rfl (by decide) rfl (_) rfl ?_
  intro b1
  refine sr 1 ?_
  refine sgo ?_
  refine tr1 hRb fun w hM => ?_
  exact ⟨_, _, rfl, hM.sat 1 _ rfl, hM.below⟩
end Go.Proofs.YtekbcbjimajnfaaGreatDoor
end
section
namespace Go.Proofs.YtekbcbjimajnfaaGreatDoor
set_option linter.unusedSimpArgs false
set_option linter.unusedVariables false
set_option maxRecDepth 20000
open Go.RowKit Go.Eng
/-- how many bytes at the beginning are such -/
def hdN (is : UInt8 → Bool) : List UInt8 → Nat
  | [] => 0
  | c :: r => if is c = true then hdN is r + 1 else 0
/-- the rows of such bytes, from a place on; n: what is left -/
def rowsF (is : UInt8 → Bool) (s : List UInt8) : Nat → Nat → List (Nat × Nat)
  | 0, _ => []
  | n + 1, i => if is (s.getD i 0) = true then (i, i + hdN is (s.drop i)) :: rowsF is s (n - hdN is (s.drop i)) (i + hdN is (s.drop i) + 1) else rowsF is s n (i + 1)
/-- parts in order, apart, within n -/
inductive SpOk (n : Nat) : Nat → List (Nat × Nat) → Prop where
  | nil {a : Nat} (h : a ≤ n) : SpOk n a []
  | cons {a f t : Nat} {r : List (Nat × Nat)} (h1 : a ≤ f) (h2 : f ≤ t) (h3 : t ≤ n) (h : SpOk n t r) : SpOk n a ((f, t) :: r)
theorem SpOk.mono {n a b : Nat} {l : List (Nat × Nat)} (h : SpOk n a l) (hb : b ≤ a) : SpOk n b l := by
  cases h with
  | nil h => exact .nil (by omega)
  | cons h1 h2 h3 h => exact .cons (by omega) h2 h3 h
theorem SpOk.filter {n : Nat} (p : Nat × Nat → Bool) : ∀ {a : Nat} {l : List (Nat × Nat)}, SpOk n a l → SpOk n a (l.filter p)
  | a, [], h => h
  | a, (f, t) :: r, h => by
    cases h with
    | cons h1 h2 h3 h =>
      rw [List.filter_cons]
      split
      · exact .cons h1 h2 h3 (SpOk.filter p h)
      · exact SpOk.mono (a := t) (SpOk.filter p h) (by omega)
/-- what is put together: what lies between the parts stays -/
def putM (s : List UInt8) : Nat → List (Nat × Nat) → List UInt8
  | a, [] => s.drop a
  | a, (f, t) :: r => (s.drop a).take (f - a) ++ List.replicate (t - f) 42 ++ putM s t r
end Go.Proofs.YtekbcbjimajnfaaGreatDoor
end
section
namespace Go.Proofs.YtekbcbjimajnfaaGreatDoor
set_option linter.unusedSimpArgs false
set_option linter.unusedVariables false
set_option maxRecDepth 20000
open Go.RowKit Go.Eng
abbrev lngF (k : Int) (l : List (Nat × Nat)) : List (Nat × Nat) := l.filter fun x => decide (k ≤ (x.2 : Int) - (x.1 : Int))
/-- the rows that are long enough -/
def rowsK (is : UInt8 → Bool) (k : Int) (s : List UInt8) : List (Nat × Nat) := lngF k (rowsF is s s.length 0)
end Go.Proofs.YtekbcbjimajnfaaGreatDoor
end
section
namespace Go.Proofs.YtekbcbjimajnfaaGreatDoor
set_option linter.unusedSimpArgs false
set_option linter.unusedVariables false
set_option maxRecDepth 20000
open Go.RowKit Go.Eng
/-- two rows with an @ between -/
def mailG (s : List UInt8) : List (Nat × Nat) → List (Nat × Nat)
  | a :: b :: r => if b.1 = a.2 + 1 ∧ s.getD a.2 0 = 64 then (a.1, b.2) :: mailG s r else mailG s (b :: r)
  | _ => []
def mailsF (is : UInt8 → Bool) (s : List UInt8) : List (Nat × Nat) := mailG s (rowsF is s s.length 0)
/-- rows in order: apart by at least one -/
inductive Apr : Nat → List (Nat × Nat) → Prop where
  | nil {a : Nat} : Apr a []
  | cons {a f t : Nat} {r : List (Nat × Nat)} (h1 : a ≤ f) (h2 : f < t) (h : Apr (t + 1) r) : Apr a ((f, t) :: r)
theorem Apr.mono {a b : Nat} {l : List (Nat × Nat)} (h : Apr a l) (hb : b ≤ a) : Apr b l := by
  cases h with
  | nil => exact .nil
  | cons h1 h2 h => exact .cons (by omega) h2 h
end Go.Proofs.YtekbcbjimajnfaaGreatDoor
end
section
namespace Go.Proofs.YtekbcbjimajnfaaGreatDoor
set_option linter.unusedSimpArgs false
set_option linter.unusedVariables false
set_option maxRecDepth 20000
open Go.RowKit Go.Eng
theorem CloneFlt_any (l : Sl Flt) (w : World) (hl : l.Ok Flt.enc 3 w) (hq : l.q ≤ 1000000) :
    Calls Tryz.prog 46 #[.slice l.A l.q l.c] w fun e w' => ∃ A c, e = .returned (.slice A l.q c) ∧ w'.ownsRow w.heap.size 100 3 (.slice A l.q c) l.q (l.l.flatMap Flt.enc) ∧ Below w.heap.size w w' := by
  have hlen := hl.t.len
  refine enter_args (args := [.slice l.A l.q l.c]) (F := _) Tryz.func46 rfl Tryz.ntmps46 rfl rfl ?_
  intro Rb hRb hRn
  refine tx ?_
  refine S_nilSlice 2 (e := 100) (size := 3) ?_
  refine sr 1 ?_
  refine sgs ?_
  refine tx ?_
  refine sr 1 ?_
  refine s1 (y_bin rfl rfl rfl (fun _ => b_eqln Tryz.underlying27)) ?_
  refine sgo ?_
  refine T_cond rfl ?_ ?_ <;> intro h4
  · skip
    refine tx ?_
    refine S_nilSlice 2 (e := 100) (size := 3) ?_
    refine sr 1 ?_
    refine sgo ?_
    refine tr1 hRb fun w hM => ?_
    have hA : l.A = none := by cases h : l.A with
      | none => rfl
      | some a => rw [h] at h4; cases h4
    have h0 : l.q = 0 := by
      rcases Nat.eq_zero_or_pos l.q with h | h
      · exact h
      · have := hl.t.isSome h; rw [hA] at this; cases this
    have hn : l.l = [] := List.eq_nil_of_length_eq_zero (by omega)
    rw [h0, hn]
    exact ⟨none, 0, rfl, World.ownsRow_nil _ _ _ _, hM.below⟩
  refine kgx ?_
  refine S_buildSlice0 5 5 rfl rfl rfl rfl Tryz.underlying27 sz100 ?_
  intro b5
  refine sr 1 ?_
  obtain ⟨i7, hi7, hz7, hs7, hy7⟩ := info_parts inf100
  refine S_appendG 7 5 (news := l.l.flatMap Flt.enc) rfl rfl rfl rfl rfl rfl rfl (fun w hM => hl.t.rd.below hM.below) Tryz.underlying27 hi7 hz7 hs7 hy7 rfl (by decide) (allOne_of (fun u hu => by obtain ⟨a, _, ha⟩ := List.mem_flatMap.1 hu; simp [Flt.enc] at ha; rcases ha with rfl | rfl | rfl <;> rfl)) ?_ ?_ (l.q) (l.l.flatMap Flt.enc) ?_ ?_ ?_
  · (simp only [maxLen]; omega)
  · omega
  · omega
  · rfl
  intro A7 c7
  refine sr 1 ?_
  refine sgo ?_
  refine tr1 hRb fun w hM => ?_
  exact ⟨A7, c7, rfl, hM.sat 5 _ rfl, hM.below⟩
theorem CloneTag_any (l : Sl STag) (w : World) (hl : l.Ok STag.enc 2 w) (hq : l.q ≤ 1000000) :
    Calls Tryz.prog 47 #[.slice l.A l.q l.c] w fun e w' => ∃ A c, e = .returned (.slice A l.q c) ∧ w'.ownsRow w.heap.size 92 2 (.slice A l.q c) l.q (l.l.flatMap STag.enc) ∧ Below w.heap.size w w' := by
  have hlen := hl.t.len
  refine enter_args (args := [.slice l.A l.q l.c]) (F := _) Tryz.func47 rfl Tryz.ntmps47 rfl rfl ?_
  intro Rb hRb hRn
  refine tx ?_
  refine S_nilSlice 2 (e := 92) (size := 2) ?_
  refine sr 1 ?_
  refine sgs ?_
  refine tx ?_
  refine sr 1 ?_
  refine s1 (y_bin rfl rfl rfl (fun _ => b_eqln Tryz.underlying28)) ?_
  refine sgo ?_
  refine T_cond rfl ?_ ?_ <;> intro h4
  · skip
    refine tx ?_
    refine S_nilSlice 2 (e := 92) (size := 2) ?_
    refine sr 1 ?_
    refine sgo ?_
    refine tr1 hRb fun w hM => ?_
    have hA : l.A = none := by cases h : l.A with
      | none => rfl
      | some a => rw [h] at h4; cases h4
    have h0 : l.q = 0 := by
      rcases Nat.eq_zero_or_pos l.q with h | h
      · exact h
      · have := hl.t.isSome h; rw [hA] at this; cases this
    have hn : l.l = [] := List.eq_nil_of_length_eq_zero (by omega)
    rw [h0, hn]
    exact ⟨none, 0, rfl, World.ownsRow_nil _ _ _ _, hM.below⟩
  refine kgx ?_
  refine S_buildSlice0 5 5 rfl rfl rfl rfl Tryz.underlying28 sz92 ?_
  intro b5
  refine sr 1 ?_
  obtain ⟨i7, hi7, hz7, hs7, hy7⟩ := info_parts inf92
  refine S_appendG 7 5 (news := l.l.flatMap STag.enc) rfl rfl rfl rfl rfl rfl rfl (fun w hM => hl.t.rd.below hM.below) Tryz.underlying28 hi7 hz7 hs7 hy7 rfl (by decide) (allOne_of (fun u hu => by obtain ⟨a, _, ha⟩ := List.mem_flatMap.1 hu; simp [STag.enc] at ha; rcases ha with rfl | rfl <;> rfl)) ?_ ?_ (l.q) (l.l.flatMap STag.enc) ?_ ?_ ?_
  · (simp only [maxLen]; omega)
  · omega
  · omega
  · rfl
  intro A7 c7
  refine sr 1 ?_
  refine sgo ?_
  refine tr1 hRb fun w hM => ?_
  exact ⟨A7, c7, rfl, hM.sat 5 _ rfl, hM.below⟩
theorem CloneCrumb_any (l : Sl SCrumb) (w : World) (hl : l.Ok SCrumb.enc 3 w) (hq : l.q ≤ 1000000) :
    Calls Tryz.prog 48 #[.slice l.A l.q l.c] w fun e w' => ∃ A c, e = .returned (.slice A l.q c) ∧ w'.ownsRow w.heap.size 95 3 (.slice A l.q c) l.q (l.l.flatMap SCrumb.enc) ∧ Below w.heap.size w w' := by
  have hlen := hl.t.len
  refine enter_args (args := [.slice l.A l.q l.c]) (F := _) Tryz.func48 rfl Tryz.ntmps48 rfl rfl ?_
  intro Rb hRb hRn
  refine tx ?_
  refine S_nilSlice 2 (e := 95) (size := 3) ?_
  refine sr 1 ?_
  refine sgs ?_
  refine tx ?_
  refine sr 1 ?_
  refine s1 (y_bin rfl rfl rfl (fun _ => b_eqln Tryz.underlying29)) ?_
  refine sgo ?_
  refine T_cond rfl ?_ ?_ <;> intro h4
  · skip
    refine tx ?_
    refine S_nilSlice 2 (e := 95) (size := 3) ?_
    refine sr 1 ?_
    refine sgo ?_
    refine tr1 hRb fun w hM => ?_
    have hA : l.A = none := by cases h : l.A with
      | none => rfl
      | some a => rw [h] at h4; cases h4
    have h0 : l.q = 0 := by
      rcases Nat.eq_zero_or_pos l.q with h | h
      · exact h
      · have := hl.t.isSome h; rw [hA] at this; cases this
    have hn : l.l = [] := List.eq_nil_of_length_eq_zero (by omega)
    rw [h0, hn]
    exact ⟨none, 0, rfl, World.ownsRow_nil _ _ _ _, hM.below⟩
  refine kgx ?_
  refine S_buildSlice0 5 5 rfl rfl rfl rfl Tryz.underlying29 sz95 ?_
  intro b5
  refine sr 1 ?_
  obtain ⟨i7, hi7, hz7, hs7, hy7⟩ := info_parts inf95
  refine S_appendG 7 5 (news := l.l.flatMap SCrumb.enc) rfl rfl rfl rfl rfl rfl rfl (fun w hM => hl.t.rd.below hM.below) Tryz.underlying29 hi7 hz7 hs7 hy7 rfl (by decide) (allOne_of (fun u hu => by obtain ⟨a, _, ha⟩ := List.mem_flatMap.1 hu; simp [SCrumb.enc] at ha; rcases ha with rfl | rfl | rfl <;> rfl)) ?_ ?_ (l.q) (l.l.flatMap SCrumb.enc) ?_ ?_ ?_
  · (simp only [maxLen]; omega)
  · omega
  · omega
  · rfl
  intro A7 c7
  refine sr 1 ?_
  refine sgo ?_
  refine tr1 hRb fun w hM => ?_
  exact ⟨A7, c7, rfl, hM.sat 5 _ rfl, hM.below⟩
end Go.Proofs.YtekbcbjimajnfaaGreatDoor
end
section
namespace Go.Proofs.YtekbcbjimajnfaaGreatDoor
set_option linter.unusedSimpArgs false
set_option linter.unusedVariables false
set_option maxRecDepth 20000
open Go.RowKit Go.Eng
theorem T_some {P : Program} {w0 : World} {n : Nat} {k : Code} {F : FL} {L : HL} {Q : Exit → Act → World → Prop} (i : Nat) {e : TypeId} {size q c : Nat} {A : Option Addr} {xs : List Value} (hL : L.get i = some (.own e size (.slice A q c) q xs)) (h : (0 < q → A.isSome = true) → T P w0 n k F L Q) : T P w0 n k F L Q :=
  fun a w hF hM => h (fun h0 => SlR.isSome (own_reads hM hL) h0) a w hF hM
abbrev Sp := Nat × Nat
end Go.Proofs.YtekbcbjimajnfaaGreatDoor
end
section
namespace Go.Proofs.YtekbcbjimajnfaaGreatDoor
set_option linter.unusedSimpArgs false
set_option linter.unusedVariables false
set_option maxRecDepth 20000
open Go.RowKit Go.Eng
def digM (c : UInt8) : Bool := decide (48 ≤ (c.toNat : Int)) && decide ((c.toNat : Int) ≤ 57)
def hexM (c : UInt8) : Bool := digM c || (decide (97 ≤ (c.toNat : Int)) && decide ((c.toNat : Int) ≤ 102))
def malM (c : UInt8) : Bool := digM c || (decide (97 ≤ (c.toNat : Int)) && decide ((c.toNat : Int) ≤ 122)) || (decide (65 ≤ (c.toNat : Int)) && decide ((c.toNat : Int) ≤ 90)) || decide ((c.toNat : Int) = 46) || decide ((c.toNat : Int) = 45) || decide ((c.toNat : Int) = 95)
end Go.Proofs.YtekbcbjimajnfaaGreatDoor
end
section
namespace Go.Proofs.YtekbcbjimajnfaaGreatDoor
set_option linter.unusedSimpArgs false
set_option linter.unusedVariables false
set_option maxRecDepth 20000
open Go.RowKit Go.Eng
def outI (n lo hi : Int) : Bool := decide (n < lo) || decide (hi < n)
/-! ### What is cleared -/
structure SRl where
  wh : Int
  nm : List UInt8
  fd : Int
  ls : Int
  tx : List UInt8
  dd : Int
/-! ### Groups -/
/-! ### Quotas, rates, alerts, the plan -/
end Go.Proofs.YtekbcbjimajnfaaGreatDoor
end
section
namespace Go.Proofs.YtekbcbjimajnfaaGreatDoor
set_option linter.unusedSimpArgs false
set_option linter.unusedVariables false
set_option maxRecDepth 20000
open Go.RowKit Go.Eng
/-! ### .. by the bytes alone -/
end Go.Proofs.YtekbcbjimajnfaaGreatDoor
end
section
namespace Go.Proofs.YtekbcbjimajnfaaGreatDoor
set_option linter.unusedSimpArgs false
set_option linter.unusedVariables false
set_option maxRecDepth 20000
open Go.RowKit Go.Eng
end Go.Proofs.YtekbcbjimajnfaaGreatDoor
end
section
namespace Go.Proofs.YtekbcbjimajnfaaGreatDoor
set_option linter.unusedSimpArgs false
set_option linter.unusedVariables false
set_option maxRecDepth 20000
open Go.RowKit Go.Eng
end Go.Proofs.YtekbcbjimajnfaaGreatDoor
end
section
namespace Go.Proofs.YtekbcbjimajnfaaGreatDoor
set_option linter.unusedSimpArgs false
set_option linter.unusedVariables false
set_option maxRecDepth 20000
open Go.RowKit Go.Eng
end Go.Proofs.YtekbcbjimajnfaaGreatDoor
end
section
namespace Go.Proofs.YtekbcbjimajnfaaGreatDoor
set_option linter.unusedSimpArgs false
set_option linter.unusedVariables false
set_option maxRecDepth 20000
open Go.RowKit Go.Eng
end Go.Proofs.YtekbcbjimajnfaaGreatDoor
end
section
namespace Go.Proofs.YtekbcbjimajnfaaGreatDoor
set_option linter.unusedSimpArgs false
set_option linter.unusedVariables false
set_option maxRecDepth 20000
open Go.RowKit Go.Eng
/-- what a rule finds -/
def fndR (r : SRl) (s : List UInt8) : List Sp := if r.fd = 2 then rowsK digM r.ls s else if r.fd = 4 then rowsK hexM r.ls s else mailsF malM s
end Go.Proofs.YtekbcbjimajnfaaGreatDoor
end
section
namespace Go.Proofs.YtekbcbjimajnfaaGreatDoor
set_option linter.unusedSimpArgs false
set_option linter.unusedVariables false
set_option maxRecDepth 20000
open Go.RowKit Go.Eng
end Go.Proofs.YtekbcbjimajnfaaGreatDoor
end
section
namespace Go.Proofs.YtekbcbjimajnfaaGreatDoor
set_option linter.unusedSimpArgs false
set_option linter.unusedVariables false
set_option maxRecDepth 20000
open Go.RowKit Go.Eng
section
variable (e : UInt8 → UInt8 → Bool)
def gm : List UInt8 → List UInt8 → Bool
  | [], [] => true
  | [], _ :: _ => false
  | a :: p, [] => decide (a = 42) && gm p []
  | a :: p, c :: r => if a = 42 then gm p (c :: r) || gm (a :: p) r else e a c && gm p r
termination_by p s => p.length + s.length
end
section
variable {e : UInt8 → UInt8 → Bool}
theorem gm_star {p s : List UInt8} : gm e (42 :: p) s = true ↔ ∃ m, m ≤ s.length ∧ gm e p (s.drop m) = true := by
  induction s with
  | nil =>
    rw [gm]
    simp only [decide_true, Bool.true_and, List.length_nil, List.drop_nil]
    exact ⟨fun h => ⟨0, Nat.le_refl _, h⟩, fun ⟨m, _, h⟩ => h⟩
  | cons c r ih =>
    rw [gm, if_pos rfl, Bool.or_eq_true, ih]
    constructor
    · rintro (h | ⟨m, h1, h2⟩)
      · exact ⟨0, Nat.zero_le _, h⟩
      · exact ⟨m + 1, by rw [List.length_cons]; omega, by rw [List.drop_succ_cons]; exact h2⟩
    · rintro ⟨m, h1, h2⟩
      cases m with
      | zero => exact .inl h2
      | succ m => exact .inr ⟨m, by rw [List.length_cons] at h1; omega, by rw [List.drop_succ_cons] at h2; exact h2⟩
theorem gm_lit {a c : UInt8} {p r : List UInt8} (h : a ≠ 42) : gm e (a :: p) (c :: r) = (e a c && gm e p r) := by rw [gm, if_neg h]
theorem gm_lit0 {a : UInt8} {p : List UInt8} (h : a ≠ 42) : gm e (a :: p) [] = false := by rw [gm, decide_eq_false h, Bool.false_and]
/-! ### The table of all beginnings -/
/-! ### Back to the last star -/
/-- where the search stands: the last star at 'st' was tried from 'mk' on; the pattern from there to 'i' has no star -/
structure Tried (e : UInt8 → UInt8 → Bool) (p s : List UInt8) (i k : Nat) (st : Option Nat) (mk : Nat) : Prop where
  hi : i ≤ p.length
  hk : k ≤ s.length
  hst : ∀ j, st = some j → j < i ∧ k = mk + (i - j - 1) ∧ p.getD j 0 = 42 ∧ ∀ m, j < m → m < i → p.getD m 0 ≠ 42
  no : st = none → mk = 0
  eq : gm e p s = true ↔ gm e (p.drop i) (s.drop k) = true ∨ ∃ j, st = some j ∧ ∃ m, mk < m ∧ m ≤ s.length ∧ gm e (p.drop (j + 1)) (s.drop m) = true
theorem Tried.start (p s : List UInt8) : Tried e p s 0 0 none 0 := ⟨Nat.zero_le _, Nat.zero_le _, (fun j h => by cases h), (fun _ => rfl), by simp⟩
theorem drop_getD {p : List UInt8} {i : Nat} (h : i < p.length) : p.drop i = p.getD i 0 :: p.drop (i + 1) := by
  rw [List.drop_eq_getElem_cons h, List.getD_eq_getElem?_getD, List.getElem?_eq_getElem h]; rfl
/-- literals take as many bytes as they are -/
theorem gm_lits {p s : List UInt8} : ∀ (n i : Nat), i + n ≤ p.length → (∀ m, i ≤ m → m < i + n → p.getD m 0 ≠ 42) → gm e (p.drop i) s = true → n ≤ s.length ∧ gm e (p.drop (i + n)) (s.drop n) = true
  | 0, i, _, _, h => ⟨Nat.zero_le _, by simpa using h⟩
  | n + 1, i, hl, hn, h => by
    have ha := hn i (Nat.le_refl _) (by omega)
    rw [drop_getD (by omega)] at h
    cases s with
    | nil => rw [gm_lit0 ha] at h; cases h
    | cons c r =>
      rw [gm_lit ha, Bool.and_eq_true] at h
      obtain ⟨h1, h2⟩ := gm_lits (s := r) n (i + 1) (by omega) (fun m h1 h2 => hn m (by omega) (by omega)) h.2
      exact ⟨by rw [List.length_cons]; omega, by rw [List.drop_succ_cons, show i + (n + 1) = i + 1 + n by omega]; exact h2⟩
theorem Tried.later {p s : List UInt8} {i k mk j m : Nat} {st : Option Nat} (h : Tried e p s i k st mk) (hst : st = some j) (hm : mk < m) (hg : gm e (p.drop (j + 1)) (s.drop m) = true) : k < m + (i - j - 1) ∧ m + (i - j - 1) ≤ max m s.length ∧ gm e (p.drop i) (s.drop (m + (i - j - 1))) = true := by
  obtain ⟨h1, h2, h3, h4⟩ := h.hst j hst
  have hi := h.hi
  obtain ⟨g1, g2⟩ := gm_lits (i - j - 1) (j + 1) (by omega) (fun q h5 h6 => h4 q (by omega) (by omega)) hg
  rw [List.length_drop] at g1
  rw [List.drop_drop, show j + 1 + (i - j - 1) = i by omega] at g2
  exact ⟨by omega, by omega, g2⟩
theorem Tried.star {p s : List UInt8} {i k mk : Nat} {st : Option Nat} (h : Tried e p s i k st mk) (hi : i < p.length) (ha : p.getD i 0 = 42) : Tried e p s (i + 1) k (some i) k := by
  refine ⟨hi, h.hk, fun j hj => ?_, (fun hh => by cases hh), ?_⟩
  · cases hj
    exact ⟨by omega, by omega, ha, fun m h1 h2 => by omega⟩
  · have hk := h.hk
    rw [h.eq, drop_getD hi, ha, gm_star]
    constructor
    · rintro (⟨m, h1, h2⟩ | ⟨j, hj, m, h1, h2, h3⟩)
      · rw [List.length_drop] at h1
        rw [List.drop_drop] at h2
        by_cases hm : m = 0
        · subst hm; exact .inl (by simpa using h2)
        · exact .inr ⟨i, rfl, k + m, by omega, by omega, h2⟩
      · obtain ⟨l1, l2, l3⟩ := h.later hj h1 h3
        rw [drop_getD hi, ha, gm_star] at l3
        obtain ⟨q, q1, q2⟩ := l3
        rw [List.length_drop] at q1
        rw [List.drop_drop] at q2
        refine .inr ⟨i, rfl, m + (i - j - 1) + q, by omega, by omega, q2⟩
    · rintro (h1 | ⟨j, hj, m, h1, h2, h3⟩)
      · exact .inl ⟨0, Nat.zero_le _, by simpa using h1⟩
      · cases hj
        refine .inl ⟨m - k, by rw [List.length_drop]; omega, ?_⟩
        rw [List.drop_drop, show k + (m - k) = m by omega]; exact h3
theorem Tried.lit {p s : List UInt8} {i k mk : Nat} {st : Option Nat} (h : Tried e p s i k st mk) (hi : i < p.length) (hk : k < s.length) (ha : p.getD i 0 ≠ 42) (he : e (p.getD i 0) (s.getD k 0) = true) : Tried e p s (i + 1) (k + 1) st mk := by
  refine ⟨hi, hk, fun j hj => ?_, h.no, ?_⟩
  · obtain ⟨h1, h2, h3, h4⟩ := h.hst j hj
    exact ⟨by omega, by omega, h3, fun m m1 m2 => by
      by_cases hm : m = i
      · subst hm; exact ha
      · exact h4 m m1 (by omega)⟩
  · rw [h.eq, drop_getD hi, drop_getD hk, gm_lit ha, he, Bool.true_and]
theorem Tried.back {p s : List UInt8} {i k mk j : Nat} (h : Tried e p s i k (some j) mk) (hk : k < s.length) (hno : i < p.length → p.getD i 0 ≠ 42 ∧ e (p.getD i 0) (s.getD k 0) = false) : Tried e p s (j + 1) (mk + 1) (some j) (mk + 1) := by
  obtain ⟨h1, h2, h3, h4⟩ := h.hst j rfl
  have hi := h.hi
  refine ⟨by omega, by omega, fun q hq => ?_, (fun hh => by cases hh), ?_⟩
  · cases hq
    exact ⟨by omega, by omega, h3, fun m m1 m2 => by omega⟩
  · have hf : gm e (p.drop i) (s.drop k) = false := by
      by_cases hip : i < p.length
      · obtain ⟨a1, a2⟩ := hno hip
        rw [drop_getD hip, drop_getD hk, gm_lit a1, a2, Bool.false_and]
      · rw [List.drop_eq_nil_of_le (by omega), drop_getD hk, gm]
    rw [h.eq, hf]
    constructor
    · rintro (h5 | ⟨q, hq, m, m1, m2, m3⟩)
      · cases h5
      · cases hq
        by_cases hm : m = mk + 1
        · subst hm; exact .inl m3
        · exact .inr ⟨j, rfl, m, by omega, m2, m3⟩
    · rintro (h5 | ⟨q, hq, m, m1, m2, m3⟩)
      · exact .inr ⟨j, rfl, mk + 1, by omega, by omega, h5⟩
      · cases hq; exact .inr ⟨j, rfl, m, by omega, m2, m3⟩
theorem Tried.fail {p s : List UInt8} {i k mk : Nat} (h : Tried e p s i k none mk) (hk : k < s.length) (hno : i < p.length → p.getD i 0 ≠ 42 ∧ e (p.getD i 0) (s.getD k 0) = false) : gm e p s = false := by
  have hf : gm e (p.drop i) (s.drop k) = false := by
    by_cases hip : i < p.length
    · obtain ⟨a1, a2⟩ := hno hip
      rw [drop_getD hip, drop_getD hk, gm_lit a1, a2, Bool.false_and]
    · rw [List.drop_eq_nil_of_le (by omega), drop_getD hk, gm]
  rw [← Bool.not_eq_true, h.eq, hf]
  rintro (h | ⟨j, hj, _⟩)
  · cases h
  · cases hj
theorem gm_stars : ∀ p : List UInt8, gm e p [] = p.all fun c => decide (c = 42)
  | [] => by rw [gm]; rfl
  | a :: p => by rw [gm, gm_stars p, List.all_cons]
theorem Tried.done {p s : List UInt8} {i k mk : Nat} {st : Option Nat} (h : Tried e p s i k st mk) (hk : s.length ≤ k) : gm e p s = (p.drop i).all fun c => decide (c = 42) := by
  rw [← gm_stars (e := e), Bool.eq_iff_iff, h.eq, List.drop_eq_nil_of_le hk]
  constructor
  · rintro (h1 | ⟨j, hj, m, m1, m2, m3⟩)
    · exact h1
    · obtain ⟨l1, l2, l3⟩ := h.later hj m1 m3
      have := h.hk
      omega
  · exact .inl
end
end Go.Proofs.YtekbcbjimajnfaaGreatDoor
end
section
namespace Go.Proofs.YtekbcbjimajnfaaGreatDoor
set_option linter.unusedSimpArgs false
set_option linter.unusedVariables false
set_option maxRecDepth 20000
open Go.RowKit Go.Eng
inductive PC where
  | mk (op : Int) (kids : List PC) (lo hi : Int) (name text : List UInt8)
def PC.op : PC → Int | .mk op _ _ _ _ _ => op
def PC.kids : PC → List PC | .mk _ k _ _ _ _ => k
def PC.lo : PC → Int | .mk _ _ lo _ _ _ => lo
def PC.hi : PC → Int | .mk _ _ _ hi _ _ => hi
def PC.name : PC → List UInt8 | .mk _ _ _ _ n _ => n
def PC.text : PC → List UInt8 | .mk _ _ _ _ _ t => t
mutual
def cntP : PC → Nat
  | .mk _ kids _ _ _ _ => cntL kids + 1
def cntL : List PC → Nat
  | [] => 0
  | k :: r => cntP k + cntL r
end
theorem cntP_pos (c : PC) : 1 ≤ cntP c := by cases c; simp [cntP]
mutual
def depP : PC → Nat
  | .mk _ kids _ _ _ _ => depL kids + 1
def depL : List PC → Nat
  | [] => 0
  | k :: r => max (depP k) (depL r)
end
theorem depL_mem : ∀ {l : List PC} {k : PC}, k ∈ l → depP k ≤ depL l
  | a :: r, k, h => by
    rw [depL]
    rcases List.mem_cons.1 h with rfl | h
    · omega
    · have := depL_mem h; omega
theorem depP_kid {c k : PC} (h : k ∈ c.kids) : depP k < depP c := by
  cases c
  have := depL_mem h
  rw [depP]
  exact Nat.lt_succ_of_le this
/-- more than m within one another -/
def deepP : Nat → PC → Bool
  | 0, _ => true
  | m + 1, c => c.kids.any (deepP m)
mutual
def sizeP : PC → Int → Int
  | .mk _ kids _ _ _ _, most => sizeL kids 1 most
def sizeL : List PC → Int → Int → Int
  | [], n, _ => n
  | k :: r, n, most => if most < n then n else sizeL r (n + sizeP k (most - n)) most
end
mutual
theorem sizeP_eq : ∀ (c : PC) (most : Int), 0 ≤ most → sizeP c most = min (cntP c : Int) (most + 1)
  | .mk _ kids _ _ _ _, most, h => by
    rw [sizeP, sizeL_eq kids 1 most (by omega) (by omega), cntP]
    omega
theorem sizeL_eq : ∀ (l : List PC) (n most : Int), 1 ≤ n → n ≤ most + 1 → sizeL l n most = min (n + cntL l) (most + 1)
  | [], n, most, h1, h2 => by rw [sizeL, cntL]; omega
  | k :: r, n, most, h1, h2 => by
    rw [sizeL, cntL]
    have := cntP_pos k
    split
    · omega
    · rw [sizeP_eq k (most - n) (by omega), sizeL_eq r _ most (by omega) (by omega)]
      omega
end
def inB (n lo hi : Int) : Bool := !(decide (n < lo) || decide (hi < n))
def grpB (op : Int) : Bool := decide (op ≤ 3)
def rngB (op : Int) : Bool := decide (4 ≤ op) && decide (op ≤ 6)
def nmdB (op : Int) : Bool := decide (op = 7) || decide (op = 8)
def wrdB (op : Int) : Bool := decide (op = 7) || decide (9 ≤ op)
def loR (op : Int) : Int := if op = 5 then 0 else 1
def hiR (op : Int) : Int := if op = 5 then 3155759999 else if op = 6 then 1000000 else 5
/-! ### Equal -/
mutual
def sameP : PC → PC → Bool
  | .mk op kids lo hi n t, .mk op' kids' lo' hi' n' t' => decide (op = op') && (decide (lo = lo') && (decide (hi = hi') && (decide (n = n') && (decide (t = t') && sameL kids kids'))))
def sameL : List PC → List PC → Bool
  | [], [] => true
  | a :: r, b :: s => sameP a b && sameL r s
  | [], _ :: _ => false
  | _ :: _, [] => false
end
mutual
theorem sameP_refl : ∀ c : PC, sameP c c = true
  | .mk op kids lo hi n t => by simp [sameP, sameL_refl kids]
theorem sameL_refl : ∀ l : List PC, sameL l l = true
  | [] => rfl
  | a :: r => by rw [sameL, sameP_refl a, sameL_refl r]; rfl
end
/-! ### Plain -/
def joinB (op : Int) (k : PC) : Bool := (decide (op = 1) || decide (op = 2)) && decide (k.op = op)
def addK (op : Int) (out : List PC) (k : PC) : List PC := if joinB op k = true then out ++ k.kids else out ++ [k]
def pc0 : PC := .mk 0 [] 0 0 [] []
def finP (op : Int) (kids : List PC) (lo hi : Int) (n t : List UInt8) : PC :=
  if op = 3 ∧ (kids.getD 0 pc0).op = 3 then (kids.getD 0 pc0).kids.getD 0 pc0 else .mk op kids lo hi n t
mutual
def plainP : PC → PC
  | .mk op kids lo hi n t => finP op (plainL op kids []) lo hi n t
def plainL (op : Int) : List PC → List PC → List PC
  | [], out => out
  | k :: r, out => plainL op r (addK op out (plainP k))
end
/-! ### Holds -/
mutual
def holdsP (lf : PC → Bool) : PC → Bool
  | .mk op kids lo hi n t => if op = 1 then holdsA lf kids else if op = 2 then holdsO lf kids else if op = 3 then !holdsF lf kids else lf (.mk op [] lo hi n t)
def holdsA (lf : PC → Bool) : List PC → Bool
  | [] => true
  | k :: r => holdsP lf k && holdsA lf r
def holdsO (lf : PC → Bool) : List PC → Bool
  | [] => false
  | k :: r => holdsP lf k || holdsO lf r
def holdsF (lf : PC → Bool) : List PC → Bool
  | [] => false
  | k :: _ => holdsP lf k
end
theorem holdsA_all (lf : PC → Bool) : ∀ l : List PC, holdsA lf l = l.all (holdsP lf)
  | [] => rfl
  | k :: r => by rw [holdsA, holdsA_all lf r, List.all_cons]
theorem holdsO_any (lf : PC → Bool) : ∀ l : List PC, holdsO lf l = l.any (holdsP lf)
  | [] => rfl
  | k :: r => by rw [holdsO, holdsO_any lf r, List.any_cons]
/-! ### Right -/
/-- what a condition without its kids is asked: 'nk' is how many kids it has -/
def chdNo (txt : List UInt8 → Int) (nm : List UInt8 → Bool) (op : Int) (nk : Nat) (lo hi : Int) (n t : List UInt8) : Int :=
  if inB op 1 14 = false then 10
  else if (decide (0 < nk) && !grpB op || ((!decide (lo = 0) || !decide (hi = 0)) && !rngB op) || (!decide (n = []) && !nmdB op) || (!decide (t = []) && !wrdB op)) = true then 1
  else if ((decide (op = 1) || decide (op = 2)) && decide (nk < 2) || decide (op = 3) && !decide (nk = 1)) = true then 1
  else if (rngB op && (!inB lo (loR op) (hiR op) || !inB hi (loR op) (hiR op))) = true then 2
  else if (rngB op && decide (hi < lo)) = true then 5
  else if (nmdB op && !nm n) = true then 3
  else if wrdB op = true then txt t else 0
section
variable (hd : Int → Nat → Int → Int → List UInt8 → List UInt8 → Int)
mutual
def chkP : PC → Int
  | .mk op kids lo hi n t => if hd op kids.length lo hi n t ≠ 0 then hd op kids.length lo hi n t else chkL kids
def chkL : List PC → Int
  | [] => 0
  | k :: r => if chkP k ≠ 0 then chkP k else chkL r
end
end
end Go.Proofs.YtekbcbjimajnfaaGreatDoor
end
section
namespace Go.Proofs.YtekbcbjimajnfaaGreatDoor
set_option linter.unusedSimpArgs false
set_option linter.unusedVariables false
set_option maxRecDepth 20000
open Go.RowKit Go.Eng
section
variable {H : Type} {enc : TypeId × Value → H} {w : World}
def IntOk (n : Int) : Prop := (Lit.int .i64 n).wf = true
def ShortS (s : List UInt8) : Prop := s.length ≤ reachBytes
theorem reach_len : reachBytes ≤ 4611686018427387904 := by decide
def strEnc (l : List UInt8) : List Value := [str l]
theorem op_s : Opn enc Tryz.prog w 9 strEnc ShortS (fun l d => d = .lit (.string l)) := opn_str Tryz.underlying9
theorem op_i : Opn enc Tryz.prog w 3 (fun n : Int => [Value.int .i64 n]) IntOk (fun n d => d = .lit (.int .i64 n)) := opn_int Tryz.underlying3
theorem op_b : Opn enc Tryz.prog w 4 (fun b : Bool => [Value.bool b]) (fun _ => True) (fun b d => d = .lit (.bool b)) := opn_bool Tryz.underlying4
def slV {X : Type} (s : Sl X) : List Value := [.slice s.A s.q s.c]
def frmG (f : Frm) : Prop := ShortS f.m ∧ ShortS f.f ∧ ShortS f.fi
theorem op_frm : Opn enc Tryz.prog w 105 Frm.enc frmG (fun _ _ => True) :=
  (opn_struct Tryz.underlying105 co105 (opf_cons op_s rfl co9 (opf_cons op_s rfl co9 (opf_cons op_s rfl co9 (opf_cons op_i rfl co3 (opf_cons op_i rfl co3 (opf_cons op_b rfl co4 opf_nil))))))).map
    (fun p => (⟨p.1, p.2.1, p.2.2.1, p.2.2.2.1, p.2.2.2.2.1, p.2.2.2.2.2.1⟩ : Frm)) (fun _ => rfl) (fun _ h => ⟨h.1, h.2.1, h.2.2.1⟩) (fun _ _ _ => trivial)
theorem op_frms : Opn enc Tryz.prog w 98 slV (FrmsOk w) (fun _ _ => True) :=
  (opn_slice Tryz.underlying98 co105 (by decide) (by rw [bo105]; decide) (fun _ => rfl) op_frm).map (fun s => s) (fun _ => rfl)
    (fun s h => ⟨h.1, Nat.le_trans h.2.1 reach_len, fun f hf => ⟨Nat.le_trans (h.2.2 f hf).1 reach_len, Nat.le_trans (h.2.2 f hf).2.1 reach_len, Nat.le_trans (h.2.2 f hf).2.2 reach_len⟩⟩) (fun _ _ _ => trivial)
theorem op_flt : Opn enc Tryz.prog w 100 Flt.enc (FltOk w) (fun _ _ => True) :=
  (opn_struct Tryz.underlying100 co100 (opf_cons op_s rfl co9 (opf_cons op_s rfl co9 (opf_cons op_frms rfl co98 opf_nil)))).map
    (fun p => (⟨p.1, p.2.1, p.2.2.1⟩ : Flt)) (fun _ => rfl) (fun _ h => ⟨Nat.le_trans h.1 reach_len, Nat.le_trans h.2.1 reach_len, h.2.2.1⟩) (fun _ _ _ => trivial)
theorem op_flts : Opn enc Tryz.prog w 27 slV (FltsOk w) (fun _ _ => True) :=
  (opn_slice Tryz.underlying27 co100 (by decide) (by rw [bo100]; decide) (fun _ => rfl) op_flt).map (fun s => s) (fun _ => rfl)
    (fun s h => ⟨h.1, Nat.le_trans h.2.1 reach_len, h.2.2⟩) (fun _ _ _ => trivial)
theorem op_tag : Opn enc Tryz.prog w 92 STag.enc (fun t => ShortS t.n ∧ ShortS t.v) (fun _ _ => True) :=
  (opn_struct Tryz.underlying92 co92 (opf_cons op_s rfl co9 (opf_cons op_s rfl co9 opf_nil))).map
    (fun p => (⟨p.1, p.2.1⟩ : STag)) (fun _ => rfl) (fun _ h => ⟨h.1, h.2.1⟩) (fun _ _ _ => trivial)
theorem op_tags : Opn enc Tryz.prog w 28 slV (TagsOk w) (fun _ _ => True) :=
  (opn_slice Tryz.underlying28 co92 (by decide) (by rw [bo92]; decide) (fun _ => rfl) op_tag).map (fun s => s) (fun _ => rfl)
    (fun s h => ⟨h.1, Nat.le_trans h.2.1 reach_len, fun t ht => ⟨Nat.le_trans (h.2.2 t ht).1 reach_len, Nat.le_trans (h.2.2 t ht).2 reach_len⟩⟩) (fun _ _ _ => trivial)
theorem op_crumb : Opn enc Tryz.prog w 95 SCrumb.enc (fun c => IntOk c.at_ ∧ ShortS c.k ∧ ShortS c.t) (fun _ _ => True) :=
  (opn_struct Tryz.underlying95 co95 (opf_cons op_i rfl co3 (opf_cons op_s rfl co9 (opf_cons op_s rfl co9 opf_nil)))).map
    (fun p => (⟨p.1, p.2.1, p.2.2.1⟩ : SCrumb)) (fun _ => rfl) (fun _ h => ⟨h.1, h.2.1, h.2.2.1⟩) (fun _ _ _ => trivial)
theorem op_crumbs : Opn enc Tryz.prog w 29 slV (CrumbsOk w) (fun _ _ => True) :=
  (opn_slice Tryz.underlying29 co95 (by decide) (by rw [bo95]; decide) (fun _ => rfl) op_crumb).map (fun s => s) (fun _ => rfl)
    (fun s h => ⟨h.1, Nat.le_trans h.2.1 reach_len, fun t ht => ⟨Nat.le_trans (h.2.2 t ht).2.1 reach_len, Nat.le_trans (h.2.2 t ht).2.2 reach_len⟩⟩) (fun _ _ _ => trivial)
theorem op_evt : Opn enc Tryz.prog w 31 Evt.enc (Evt.Ok w) (fun _ _ => True) :=
  (opn_struct Tryz.underlying31 co31 (opf_cons op_s rfl co9 (opf_cons op_i rfl co3 (opf_cons op_i rfl co3 (opf_cons op_flts rfl co27 (opf_cons op_tags rfl co28 (opf_cons op_crumbs rfl co29 (opf_cons op_s rfl co9 (opf_cons op_s rfl co9 (opf_cons op_i rfl co3 opf_nil)))))))))).map
    (fun p => (⟨p.1, p.2.1, p.2.2.1, p.2.2.2.1, p.2.2.2.2.1, p.2.2.2.2.2.1, p.2.2.2.2.2.2.1, p.2.2.2.2.2.2.2.1, p.2.2.2.2.2.2.2.2.1⟩ : Evt)) (fun _ => rfl)
    (fun p h => by
      obtain ⟨h1, _, _, h4, h5, h6, h7, h8, _⟩ := h
      exact ⟨h4, h5, h6, Nat.le_trans h1 reach_len, Nat.le_trans h7 reach_len, Nat.le_trans h8 reach_len⟩) (fun _ _ _ => trivial)
end
end Go.Proofs.YtekbcbjimajnfaaGreatDoor
end
section
namespace Go.Proofs.YtekbcbjimajnfaaGreatDoor
set_option linter.unusedSimpArgs false
set_option linter.unusedVariables false
set_option maxRecDepth 20000
open Go.RowKit Go.Eng
inductive SC where
  | mk (op : Int) (A : Option Addr) (q c : Nat) (kids : List SC) (lo hi : Int) (name text : List UInt8)
def SC.op : SC → Int | .mk op _ _ _ _ _ _ _ _ => op
def SC.ad : SC → Option Addr | .mk _ A _ _ _ _ _ _ _ => A
def SC.q : SC → Nat | .mk _ _ q _ _ _ _ _ _ => q
def SC.c : SC → Nat | .mk _ _ _ c _ _ _ _ _ => c
def SC.lo : SC → Int | .mk _ _ _ _ _ lo _ _ _ => lo
def SC.hi : SC → Int | .mk _ _ _ _ _ _ hi _ _ => hi
def SC.nm : SC → List UInt8 | .mk _ _ _ _ _ _ _ n _ => n
def SC.tx : SC → List UInt8 | .mk _ _ _ _ _ _ _ _ t => t
def SC.enc (x : SC) : List Value := [.int .i64 x.op, .slice x.ad x.q x.c, .int .i64 x.lo, .int .i64 x.hi, str x.nm, str x.tx]
def SC.val (c : SC) : Value := .agg c.enc.toArray
def SC.kids : SC → List SC | .mk _ _ _ _ k _ _ _ _ => k
mutual
def SC.says : SC → PC
  | .mk op _ _ _ kids lo hi n t => .mk op (SC.saysL kids) lo hi n t
def SC.saysL : List SC → List PC
  | [] => []
  | k :: r => k.says :: SC.saysL r
end
theorem saysL_map : ∀ l : List SC, SC.saysL l = l.map SC.says
  | [] => rfl
  | k :: r => by rw [SC.saysL, saysL_map r]; rfl
theorem SC.says_mk {op lo hi : Int} {A : Option Addr} {q c : Nat} {kids : List SC} {n t : List UInt8} : (SC.mk op A q c kids lo hi n t).says = .mk op (kids.map SC.says) lo hi n t := by rw [SC.says, saysL_map]
theorem SC.says_kids (c : SC) : c.says.kids = c.kids.map SC.says := by cases c; rw [SC.says_mk]; rfl
theorem SC.enc_len (c : SC) : c.enc.length = 6 := rfl
inductive SC.Ok (w : World) : SC → Prop where
  | mk {op lo hi : Int} {A : Option Addr} {q c : Nat} {kids : List SC} {n t : List UInt8} (h : Sl.Ok SC.enc 6 w ⟨A, q, c, kids⟩) (hq : q ≤ 4611686018427387904) (hb : q * 80 ≤ 140737488355328) (hn : n.length ≤ 4611686018427387904) (ht : t.length ≤ 4611686018427387904) (hk : ∀ k ∈ kids, SC.Ok w k) : SC.Ok w (.mk op A q c kids lo hi n t)
/-- how deep it is -/
abbrev SC.dep (c : SC) : Nat := depP c.says
theorem SC.dep_kid {c k : SC} (hk : k ∈ c.kids) : k.dep < c.dep := depP_kid (by rw [SC.says_kids]; exact List.mem_map_of_mem hk)
theorem SC.ind {Q : SC → Prop} (h : ∀ c, (∀ k ∈ c.kids, Q k) → Q c) (c : SC) : Q c := by
  have key : ∀ (n : Nat) (c : SC), c.dep ≤ n → Q c := by
    intro n
    induction n with
    | zero => intro c hc; cases c; simp [SC.dep, SC.says, depP] at hc
    | succ n ih => intro c hc; exact h c fun k hk => ih k (by have := SC.dep_kid hk; omega)
  exact key _ c (Nat.le_refl _)
theorem SC.Ok.lift {w w' : World} {c : SC} (hb : Below w.heap.size w w') : c.Ok w → c.Ok w' := by
  refine SC.ind (Q := fun c => c.Ok w → c.Ok w') (fun c ih h => ?_) c
  cases h with
  | mk h1 h2 h6 h3 h4 h5 => exact .mk (h1.below hb) h2 h6 h3 h4 fun k hk => ih k hk (h5 k hk)
section
variable {H : Type} {enc : TypeId × Value → H} {w : World}
def condR (c : SC) (d : DataW H) : Prop := cntP c.says ≤ Rows.uptoBulk d
theorem bulk_all : ∀ (l : List SC) (es : List (DataW H)), es.length = l.length → (∀ (i : Nat) (a : SC) (x : DataW H), l[i]? = some a → es[i]? = some x → condR a x) → cntL (SC.saysL l) ≤ Rows.uptoBulkAll es
  | [], _, _, _ => by simp [SC.saysL, cntL]
  | a :: r, [], h, _ => by simp at h
  | a :: r, x :: xs, hl, h => by
    rw [SC.saysL, cntL, Rows.uptoBulkAll]
    have h1 := h 0 a x rfl rfl
    have h2 := bulk_all r xs (by simpa using hl) fun i b y hb hy => h (i + 1) b y (by simpa using hb) (by simpa using hy)
    have h1 : cntP a.says ≤ Rows.uptoBulk x := h1
    omega
theorem bulk_slice {s : Sl SC} {d : DataW H} (h : SlRel condR s d) : cntL (SC.saysL s.l) ≤ Rows.uptoBulk d := by
  obtain ⟨es, hd, hl, he⟩ := h
  have h1 := bulk_all s.l es hl he
  rcases hd with ⟨rfl, rfl⟩ | ⟨sp, rfl⟩
  · rw [Rows.uptoBulkAll] at h1; omega
  · rw [Rows.uptoBulk]; omega
theorem op_condN : ∀ N, OpnN N enc Tryz.prog w 36 SC.enc (SC.Ok w) (condR (H := H)) := by
  intro N
  induction N using Nat.strongRecOn with
  | _ N ih =>
    cases N with
    | zero => exact OpnN.zero
    | succ N =>
      have hk : OpnN N enc Tryz.prog w 34 (fun s : Sl SC => [.slice s.A s.q s.c]) (fun s => s.Ok SC.enc 6 w ∧ s.q ≤ reachBytes ∧ s.q * Tryz.prog.bytesOf 36 ≤ reachBytes ∧ ∀ a ∈ s.l, a.Ok w) (SlRel (condR (H := H))) := by
        cases N with
        | zero => exact OpnN.zero
        | succ M => exact opnN_slice Tryz.underlying34 co36 (by decide) (by rw [bo36]; decide) SC.enc_len (ih M (by omega))
      refine (opnN_struct Tryz.underlying36 co36 (opfN_cons op_i.n rfl co3 (opfN_cons hk rfl co34 (opfN_cons op_i.n rfl co3 (opfN_cons op_i.n rfl co3 (opfN_cons op_s.n rfl co9 (opfN_cons op_s.n rfl co9 opfN_nil))))))).map
        (fun p => SC.mk p.1 p.2.1.A p.2.1.q p.2.1.c p.2.1.l p.2.2.1 p.2.2.2.1 p.2.2.2.2.1 p.2.2.2.2.2.1) (fun _ => rfl) ?_ ?_
      · rintro p ⟨_, ⟨h2, h3, h4, h5⟩, _, _, h6, h7, _⟩
        rw [bo36] at h4
        exact .mk h2 (Nat.le_trans h3 reach_len) (Nat.le_trans h4 (by decide)) (Nat.le_trans h6 reach_len) (Nat.le_trans h7 reach_len) h5
      · rintro p d _ ⟨ds, rfl, d1, r1, rfl, _, d2, r2, rfl, h2, _⟩
        show cntP (SC.mk _ _ _ _ _ _ _ _ _).says ≤ _
        rw [SC.says, cntP, Rows.uptoBulk, Rows.uptoBulkAll, Rows.uptoBulkAll]
        have := bulk_slice h2
        omega
theorem op_cond : Opn enc Tryz.prog w 36 SC.enc (SC.Ok w) (condR (H := H)) := OpnN.all op_condN
end
end Go.Proofs.YtekbcbjimajnfaaGreatDoor
end
section
namespace Go.Proofs.YtekbcbjimajnfaaGreatDoor
set_option linter.unusedSimpArgs false
set_option linter.unusedVariables false
set_option maxRecDepth 20000
open Go.RowKit Go.Eng
def fndP {α : Type} (p : α → Bool) : List α → Nat → Int
  | [], _ => -1
  | a :: r, i => if p a = true then (i : Int) else fndP p r (i + 1)
theorem fndP_any {α : Type} (p : α → Bool) : ∀ (l : List α) (i : Nat), decide (0 ≤ fndP p l i) = l.any p
  | [], i => rfl
  | a :: r, i => by
    rw [fndP, List.any_cons]
    cases h : p a with
    | true => rw [if_pos rfl, Bool.true_or]; exact decide_eq_true (by omega)
    | false => rw [if_neg Bool.false_ne_true, fndP_any p r, Bool.false_or]
theorem IndexFC_any (A : Option Addr) (q c : Nat) (l : List SC) (g : FuncId) (cap : Array Value) (p : SC → Bool) (w : World) (hl : SlT SC.enc 6 w A q l) (hq : q ≤ 4611686018427387904) (hcf : ∀ args w, (callFunc g args).run Tryz.prog w = .ok (.enter g args) w)
    (hA : ∀ x ∈ l, ∀ w', Below w.heap.size w w' → Calls Tryz.prog g (#[x.val] ++ cap) w' fun e w'' => e = .returned (.bool (p x)) ∧ Below w'.heap.size w' w'') :
    Calls Tryz.prog 213 #[.slice A q c, .func (.func g) #[] cap] w fun e w' => e = .returned (.int .i64 (fndP p l 0)) ∧ Below w.heap.size w w' := by
  refine enter_args (args := [.slice A q c, .func (.func g) #[] cap]) (F := _) Tryz.func213 rfl Tryz.ntmps213 rfl rfl ?_
  intro Rb hRb hRn
  refine tx ?_
  refine sr 1 ?_
  refine sgs ?_
  refine tx ?_
  refine sr 1 ?_
  refine s1 (y_len_slice rfl rfl Tryz.underlying34) ?_
  refine sr 1 ?_
  refine sgo ?_
  refine T_block ?_
  refine lK1 (kf := [(4, 5), (8, 18)]) (kl := [(4, 5), (8, 18)]) (fun (i : Nat) => [(8, true, .int .i64 (i : Int))]) (fun (i : Nat) => []) (fun (i : Nat) => i ≤ q ∧ fndP p l 0 = fndP p (l.drop i) i) (fun (i : Nat) => q - i) 0 ?_ ?_ ?_ ?_
  · exact ⟨by omega, rfl⟩
  · exact ⟨rfl, trivial⟩
  · exact trivial
  rintro i ⟨hp1, hp2⟩
  refine tx ?_
  refine sr 1 ?_
  refine sgs ?_
  refine T_cond rfl ?_ ?_ <;> intro h9
  · try simp only [nrm] at h9
    obtain ⟨x, hx1, hx2⟩ := hl.at (i := i) (by omega)
    refine kgs ?_
    refine T_block ?_
    refine tx ?_
    refine sr 2 ?_
    refine sgx ?_
    refine sr 3 ?_
    refine s1 (y_indexAddr rfl rfl rfl Tryz.underlying34 sz36 (fun hg => hl.isSome (by omega)) (fun _ => by omega)) ?_
    refine s1 (y_loadT rfl rfl hl (fun _ => rfl) (fun _ => hx1) Tryz.underlying36 rfl sz36) ?_
    refine s1 (y_call rfl rfl rfl hcf (fun _ w hM => hA x (mem_at hx1) w hM.below)) ?_
    refine sgo ?_
    refine T_cond rfl ?_ ?_ <;> intro h16
    · skip
      refine tx ?_
      refine sr 2 ?_
      refine sgo ?_
      refine tr1 hRb fun w hM => ?_
      exact ⟨by rw [hp2, hx2, fndP, if_pos h16], hM.below⟩
    refine kgr ?_
    refine s1 (y_bin rfl rfl rfl (fun hg => b_add (by omega))) ?_
    refine sr 1 ?_
    refine S_nil (nK1 (kf := [(4, 5), (8, 18)]) (kl := [(4, 5), (8, 18)]) (i + 1) ?_ ?_ ?_ ?_)
    · omega
    · exact ⟨by omega, by rw [hp2, hx2, fndP, if_neg (by simp [h16])]⟩
    · exact ⟨rfl, trivial⟩
    · exact trivial
  try simp only [nrm] at h9
  refine egx ?_
  refine sr 1 ?_
  refine sgo ?_
  refine tr1 hRb fun w hM => ?_
  exact ⟨by rw [hp2, hl.end (by omega)]; rfl, hM.below⟩
theorem ContFC_any (A : Option Addr) (q c : Nat) (l : List SC) (g : FuncId) (cap : Array Value) (p : SC → Bool) (w : World) (hl : SlT SC.enc 6 w A q l) (hq : q ≤ 4611686018427387904) (hcf : ∀ args w, (callFunc g args).run Tryz.prog w = .ok (.enter g args) w)
    (hA : ∀ x ∈ l, ∀ w', Below w.heap.size w w' → Calls Tryz.prog g (#[x.val] ++ cap) w' fun e w'' => e = .returned (.bool (p x)) ∧ Below w'.heap.size w' w'') :
    Calls Tryz.prog 136 #[.slice A q c, .func (.func g) #[] cap] w fun e w' => e = .returned (.bool (l.any p)) ∧ Below w.heap.size w w' := by
  rw [← fndP_any p l 0]
  refine enter_args (args := [.slice A q c, .func (.func g) #[] cap]) (F := _) Tryz.func136 rfl Tryz.ntmps136 rfl rfl ?_
  intro Rb hRb hRn
  refine tx ?_
  refine sr 1 ?_
  refine sgx ?_
  refine sr 2 ?_
  refine s1 (y_call rfl rfl rfl cf213 (fun _ w hM => IndexFC_any A q c l g cap p w (hl.below hM.below) hq hcf fun x hx w1 hb => hA x hx w1 (hM.below.trans (hb.mono hM.below.size)))) ?_
  refine sr 2 ?_
  refine sgo ?_
  refine tr1 hRb fun w hM => ?_
  exact ⟨rfl, hM.below⟩
theorem cellK {w w' : World} {b off : Nat} {v : Value} (h : w.cell? ⟨b, off, none⟩ = some v ∧ b < w.heap.size) (hb : Below w.heap.size w w') : w'.cell? ⟨b, off, none⟩ = some v ∧ b < w'.heap.size :=
  ⟨by rw [World.cell?, hb.block _ h.2]; exact h.1, Nat.lt_of_lt_of_le h.2 hb.size⟩
theorem SC.Ok.parts {x : SC} {w : World} (h : x.Ok w) : Sl.Ok SC.enc 6 w ⟨x.ad, x.q, x.c, x.kids⟩ ∧ x.q ≤ 4611686018427387904 ∧ x.q * 80 ≤ 140737488355328 ∧ x.nm.length ≤ 4611686018427387904 ∧ x.tx.length ≤ 4611686018427387904 ∧ ∀ k ∈ x.kids, k.Ok w := by
  cases h with
  | mk h1 h2 h3 h4 h5 h6 => exact ⟨h1, h2, h3, h4, h5, h6⟩
def DeepAt (m : Nat) : Prop := ∀ (x : SC) (w : World), x.Ok w → Calls Tryz.prog 92 #[x.val, .int .i64 (m : Int)] w fun e w' => e = .returned (.bool (deepP m x.says)) ∧ Below w.heap.size w w'
theorem deep1_any (m : Nat) (hm : m ≤ 1000000) (ih : DeepAt m) (x : SC) (b : Nat) (w : World) (hk : x.Ok w) (hc : w.cell? ⟨b, 0, none⟩ = some (.int .i64 ((m + 1 : Nat) : Int)) ∧ b < w.heap.size) :
    Calls Tryz.prog 137 #[x.val, .pointer (some ⟨b, 0, none⟩)] w fun e w' => e = .returned (.bool (deepP m x.says)) ∧ Below w.heap.size w w' := by
  refine enter_args (args := [.agg #[.int .i64 x.op, .slice x.ad x.q x.c, .int .i64 x.lo, .int .i64 x.hi, str x.nm, str x.tx], .pointer (some ⟨b, 0, none⟩)]) (F := _) Tryz.func137 rfl Tryz.ntmps137 rfl rfl ?_
  intro Rb hRb hRn
  refine tx ?_
  refine S_box 2 2 rfl rfl rfl rfl rfl ?_
  intro b2
  refine sr 1 ?_
  refine sgx ?_
  refine s1 (yA 2 rfl Tryz.underlying36 sz36) ?_
  refine s1 (y_load_far rfl rfl hc.1 hc.2 Tryz.underlying3 rfl) ?_
  refine s1 (y_bin rfl rfl rfl (fun hg => b_subv (((m : Nat) : Int)) (by omega) (by omega))) ?_
  refine s1 (y_call rfl rfl rfl cf92 (fun _ w1 hM => ih x w1 (hk.lift hM.below))) ?_
  refine sr 1 ?_
  refine sgo ?_
  refine tr1 hRb fun w hM => ?_
  exact ⟨rfl, hM.below⟩
theorem deep_step (m : Nat) (hm : m + 1 ≤ 1000000) (ih : DeepAt m) : DeepAt (m + 1) := fun x w hok => by
  obtain ⟨hs, hq, hb, hn, ht, hk⟩ := hok.parts
  have e : deepP (m + 1) x.says = x.kids.any fun k => deepP m k.says := by rw [deepP, SC.says_kids, List.any_map]; rfl
  rw [e]
  refine enter_args (args := [.agg #[.int .i64 x.op, .slice x.ad x.q x.c, .int .i64 x.lo, .int .i64 x.hi, str x.nm, str x.tx], .int .i64 ((m + 1 : Nat) : Int)]) (F := _) Tryz.func92 rfl Tryz.ntmps92 rfl rfl ?_
  intro Rb hRb hRn
  refine tx ?_
  refine S_box 2 2 rfl rfl rfl rfl rfl ?_
  intro b2
  refine S_box 3 3 rfl rfl rfl rfl rfl ?_
  intro b3
  refine sr 1 ?_
  refine sgs ?_
  refine tx ?_
  refine s1 (yL 3 Tryz.underlying3) ?_
  refine sr 1 ?_
  refine sgo ?_
  refine T_cond rfl ?_ ?_ <;> intro h6
  · skip
    have : ((m + 1 : Nat) : Int) = 0 := by simpa using h6
    omega
  refine kgx ?_
  refine s1 (yF fa36_1) ?_
  refine s1 (yL 2 Tryz.underlying34) ?_
  refine s1 (y_makeFunc rfl rfl rfl rfl rfl) ?_
  refine s1 (y_call rfl rfl rfl cf136 (fun _ w1 hM => ContFC_any x.ad x.q x.c x.kids 137 _ (fun k => deepP m k.says) w1 (hs.t.below hM.below) hq cf137 (fun k hkm w2 hb2 => deep1_any m (by omega) ih k b3 w2 ((hk k hkm).lift (hM.below.trans (hb2.mono hM.below.size))) (cellK (hM.box_cell (i := 3) rfl rfl) hb2)))) ?_
  refine sr 1 ?_
  refine sgo ?_
  refine tr1 hRb fun w hM => ?_
  exact ⟨rfl, hM.below⟩
theorem deep_zero : DeepAt 0 := fun x w hok => by
  refine enter_args (args := [.agg #[.int .i64 x.op, .slice x.ad x.q x.c, .int .i64 x.lo, .int .i64 x.hi, str x.nm, str x.tx], .int .i64 ((0 : Nat) : Int)]) (F := _) Tryz.func92 rfl Tryz.ntmps92 rfl rfl ?_
  intro Rb hRb hRn
  refine tx ?_
  refine S_box 2 2 rfl rfl rfl rfl rfl ?_
  intro b2
  refine S_box 3 3 rfl rfl rfl rfl rfl ?_
  intro b3
  refine sr 1 ?_
  refine sgs ?_
  refine tx ?_
  refine s1 (yL 3 Tryz.underlying3) ?_
  refine sr 1 ?_
  refine sgo ?_
  refine T_cond rfl ?_ ?_ <;> intro h6
  · skip
    refine tx ?_
    refine sr 1 ?_
    refine sgo ?_
    refine tr1 hRb fun w hM => ?_
    exact ⟨rfl, hM.below⟩
  cases h6
theorem tooDeep_any : ∀ m : Nat, m ≤ 1000000 → DeepAt m
  | 0, _ => deep_zero
  | m + 1, h => deep_step m h (tooDeep_any m (by omega))
end Go.Proofs.YtekbcbjimajnfaaGreatDoor
end
section
namespace Go.Proofs.YtekbcbjimajnfaaGreatDoor
set_option linter.unusedSimpArgs false
set_option linter.unusedVariables false
set_option maxRecDepth 20000
open Go.RowKit Go.Eng
theorem SC.says_form (x : SC) : x.says = .mk x.op (x.kids.map SC.says) x.lo x.hi x.nm x.tx := by cases x; rw [SC.says_mk]; rfl
def SizeAt (x : SC) : Prop := ∀ (most : Int) (w : World), 0 ≤ most → most ≤ 1000000 → x.Ok w → Calls Tryz.prog 93 #[x.val, .int .i64 most] w fun e w' => e = .returned (.int .i64 (sizeP x.says most)) ∧ Below w.heap.size w w'
theorem size_step (x : SC) (ih : ∀ k ∈ x.kids, SizeAt k) : SizeAt x := fun most w hm0 hm1 hok => by
  obtain ⟨hs, hq, hb, hn, ht, hk⟩ := hok.parts
  have hl : SlT SC.enc 6 w x.ad x.q x.kids := hs.t
  rw [SC.says_form, sizeP]
  refine enter_args (args := [.agg #[.int .i64 x.op, .slice x.ad x.q x.c, .int .i64 x.lo, .int .i64 x.hi, str x.nm, str x.tx], .int .i64 most]) (F := _) Tryz.func93 rfl Tryz.ntmps93 rfl rfl ?_
  intro Rb hRb hRn
  refine tx ?_
  refine S_box 2 2 rfl rfl rfl rfl rfl ?_
  intro b2
  refine sr 1 ?_
  refine sgx ?_
  refine sr 1 ?_
  refine sgs ?_
  refine tx ?_
  refine s1 (yF fa36_1) ?_
  refine s1 (yL 2 Tryz.underlying34) ?_
  refine s1 (y_len_slice rfl rfl Tryz.underlying34) ?_
  refine sr 1 ?_
  refine sgo ?_
  refine T_block ?_
  refine lK2 (kf := [(5, 5), (7, 7), (11, 25)]) (kl := [(5, 5), (7, 7), (11, 25)]) (fun (i : Nat) (n : Int) => [(11, true, .int .i64 (i : Int)), (5, true, .int .i64 n)]) (fun (i : Nat) (n : Int) => []) (fun (i : Nat) (n : Int) => i ≤ x.q ∧ sizeL ((x.kids.drop i).map SC.says) n most = sizeL (x.kids.map SC.says) 1 most ∧ 1 ≤ n ∧ n ≤ most + 1) (fun (i : Nat) (n : Int) => x.q - i) 0 1 ?_ ?_ ?_ ?_
  · exact ⟨by omega, rfl, by omega, by omega⟩
  · exact ⟨rfl, rfl, trivial⟩
  · exact trivial
  rintro i n ⟨hp1, hp2, hp3, hp4⟩
  refine tx ?_
  refine sr 1 ?_
  refine sgs ?_
  refine T_cond rfl ?_ ?_ <;> intro h12
  · try simp only [nrm] at h12
    obtain ⟨k, hx1, hx2⟩ := hl.at (i := i) (by omega)
    rw [hx2, List.map_cons, sizeL] at hp2
    refine kgs ?_
    refine T_block ?_
    refine tx ?_
    refine s1 (y_indexAddr rfl rfl rfl Tryz.underlying34 sz36 (fun hg => hl.isSome (by omega)) (fun _ => by omega)) ?_
    refine s1 (y_loadT rfl rfl hl (fun _ => rfl) (fun _ => hx1) Tryz.underlying36 rfl sz36) ?_
    refine S_alloc 7 7 rfl rfl rfl rfl z36 ?_
    intro b7
    refine S_store 7 rfl rfl rfl rfl rfl rfl sz36 rfl rfl ?_
    refine sgs ?_
    refine tx ?_
    refine sr 3 ?_
    refine sgo ?_
    refine T_cond rfl ?_ ?_ <;> intro h17
    · try simp only [nrm] at h17
      have h17 : most < n := by omega
      rw [if_pos h17] at hp2
      refine egx ?_
      refine sr 2 ?_
      refine sgo ?_
      refine tr1 hRb fun w hM => ?_
      exact ⟨by rw [← hp2], hM.below⟩
    try simp only [nrm] at h17
    have h17 : ¬ most < n := by omega
    rw [if_neg h17] at hp2
    have hz := sizeP_eq k.says (most - n) (by omega)
    have hc := cntP_pos k.says
    refine kgr ?_
    refine sr 1 ?_
    refine s1 (yA 7 rfl Tryz.underlying36 sz36) ?_
    refine sr 2 ?_
    refine s1 (y_bin rfl rfl rfl (fun hg => b_sub (by omega))) ?_
    refine s1 (y_call rfl rfl rfl cf93 (fun _ w1 hM => ih k (mem_at hx1) (most - n) w1 (by omega) (by omega) ((hk k (mem_at hx1)).lift hM.below))) ?_
    refine s1 (y_bin rfl rfl rfl (fun hg => b_add (by omega))) ?_
    refine sr 1 ?_
    refine sgr ?_
    refine s1 (y_bin rfl rfl rfl (fun hg => b_add (by omega))) ?_
    refine sr 1 ?_
    refine S_nil (nK2 (kf := [(5, 5), (7, 7), (11, 25)]) (kl := [(5, 5), (7, 7), (11, 25)]) (i + 1) (n + sizeP k.says (most - n)) ?_ ?_ ?_ ?_)
    · omega
    · exact ⟨by omega, hp2, by omega, by omega⟩
    · exact ⟨rfl, rfl, trivial⟩
    · exact trivial
  try simp only [nrm] at h12
  refine egx ?_
  refine sr 2 ?_
  refine sgo ?_
  refine tr1 hRb fun w hM => ?_
  exact ⟨by rw [← hp2, hl.end (by omega)]; rfl, hM.below⟩
theorem size_any (x : SC) : SizeAt x := SC.ind (Q := SizeAt) size_step x
def badC (c : UInt8) : Bool := decide (((c.toNat : Nat) : Int) < 32) || decide ((126 : Int) < ((c.toNat : Nat) : Int))
def txtNo (s : List UInt8) : Int := if s = [] then 1 else if (200 : Int) < s.length then 4 else if s.any badC = true then 9 else 0
theorem drD {p : List UInt8} {i : Nat} (h : i < p.length) : p.drop i = p.getD i 0 :: p.drop (i + 1) := by
  rw [List.drop_eq_getElem_cons h, List.getD_eq_getElem?_getD, List.getElem?_eq_getElem h]; rfl
theorem checkText_any (s : List UInt8) (w : World) :
    Calls Tryz.prog 142 #[str s] w fun e w' => e = .returned (.int .i64 (txtNo s)) ∧ Below w.heap.size w w' := by
  refine enter_args (args := [str s]) (F := _) Tryz.func142 rfl Tryz.ntmps142 rfl rfl ?_
  intro Rb hRb hRn
  refine tx ?_
  refine sr 1 ?_
  refine sgs ?_
  refine T_block ?_
  refine tx ?_
  refine sr 1 ?_
  refine s1 (y_bin rfl rfl rfl (fun _ => b_eqls)) ?_
  refine sr 1 ?_
  refine sgo ?_
  refine T_cond rfl ?_ ?_ <;> intro h4
  · skip
    have h4 : s = [] := by simpa using h4
    have e1 : txtNo s = 1 := if_pos h4
    refine tx ?_
    refine sr 1 ?_
    refine sgo ?_
    refine tr1 hRb fun w hM => ?_
    exact ⟨by rw [e1], hM.below⟩
  have h4 : ¬ s = [] := by simpa using h4
  refine tx ?_
  refine sr 1 ?_
  refine s1 (y_len_str rfl rfl Tryz.underlying9) ?_
  refine sr 2 ?_
  refine sgo ?_
  refine T_cond rfl ?_ ?_ <;> intro h7
  · skip
    have h7 : (200 : Int) < s.length := by simpa using h7
    have e1 : txtNo s = 4 := by rw [txtNo, if_neg h4, if_pos h7]
    refine tx ?_
    refine sr 1 ?_
    refine sgo ?_
    refine tr1 hRb fun w hM => ?_
    exact ⟨by rw [e1], hM.below⟩
  have h7 : ¬ (200 : Int) < s.length := by simpa using h7
  refine kgs ?_
  refine tx ?_
  refine sr 1 ?_
  refine s1 (y_len_str rfl rfl Tryz.underlying9) ?_
  refine sr 1 ?_
  refine sgo ?_
  refine T_block ?_
  refine lK1 (kf := [(2, 3), (13, 26)]) (kl := [(2, 3), (13, 26)]) (fun (i : Nat) => [(13, true, .int .i64 (i : Int))]) (fun (i : Nat) => []) (fun (i : Nat) => i ≤ s.length ∧ (s.drop i).any badC = s.any badC) (fun (i : Nat) => s.length - i) 0 ?_ ?_ ?_ ?_
  · exact ⟨by omega, rfl⟩
  · exact ⟨rfl, trivial⟩
  · exact trivial
  rintro i ⟨hp1, hp2⟩
  refine tx ?_
  refine sr 1 ?_
  refine sgs ?_
  refine T_cond rfl ?_ ?_ <;> intro h14
  · try simp only [nrm] at h14
    have hd := drD (p := s) (i := i) (by omega)
    rw [hd, List.any_cons] at hp2
    refine kgs ?_
    refine T_block ?_
    refine tx ?_
    refine sr 2 ?_
    refine sgx ?_
    refine sr 2 ?_
    refine s1 (y_index_str rfl rfl rfl Tryz.underlying9 (fun _ => by omega)) ?_
    refine sr 2 ?_
    refine sg rfl (y_move rfl rfl) ?_
    refine sg rfl (y_move rfl rfl) ?_
    refine sg rfl (y_index_str rfl rfl rfl Tryz.underlying9 (fun hg => by simp only [Bool.true_and, Bool.and_eq_true, beq_iff_eq, decide_eq_true_eq, decide_eq_false_iff_not, Int.not_lt, Int.not_le] at hg; omega)) ?_
    refine sg rfl (y_bin rfl rfl rfl (fun _ => b_gtr)) ?_
    refine s1 (y_as (v' := .bool (badC (s.getD i 0))) (by exact rfl) (y_or rfl rfl rfl)) ?_
    refine sgo ?_
    refine T_cond rfl ?_ ?_ <;> intro h25
    · skip
      rw [h25, Bool.true_or] at hp2
      have e1 : txtNo s = 9 := by rw [txtNo, if_neg h4, if_neg h7, if_pos hp2.symm]
      refine tx ?_
      refine sr 1 ?_
      refine sgo ?_
      refine tr1 hRb fun w hM => ?_
      exact ⟨by rw [e1], hM.below⟩
    rw [h25, Bool.false_or] at hp2
    refine kgr ?_
    refine s1 (y_bin rfl rfl rfl (fun hg => b_add (by omega))) ?_
    refine sr 1 ?_
    refine S_nil (nK1 (kf := [(2, 3), (13, 26)]) (kl := [(2, 3), (13, 26)]) (i + 1) ?_ ?_ ?_ ?_)
    · omega
    · exact ⟨by omega, hp2⟩
    · exact ⟨rfl, trivial⟩
    · exact trivial
  try simp only [nrm] at h14
  refine egx ?_
  refine sr 1 ?_
  refine sgo ?_
  refine tr1 hRb fun w hM => ?_
  have e1 : s.any badC = false := by rw [← hp2, List.drop_eq_nil_of_le (by omega)]; rfl
  exact ⟨by rw [txtNo, if_neg h4, if_neg h7, if_neg (by rw [e1]; simp)], hM.below⟩
theorem groups_any (op : Int) (w : World) : Calls Tryz.prog 138 #[.int .i64 op] w fun e w' => e = .returned (.bool (grpB op)) ∧ Below w.heap.size w w' := by
  refine enter_args (args := [.int .i64 op]) (F := _) Tryz.func138 rfl Tryz.ntmps138 rfl rfl ?_
  intro Rb hRb hRn
  refine tx ?_
  refine sr 1 ?_
  refine sgx ?_
  refine sr 3 ?_
  refine sgo ?_
  refine tr1 hRb fun w hM => ?_
  exact ⟨rfl, hM.below⟩
theorem ranges_any (op : Int) (w : World) : Calls Tryz.prog 139 #[.int .i64 op] w fun e w' => e = .returned (.bool (rngB op)) ∧ Below w.heap.size w w' := by
  refine enter_args (args := [.int .i64 op]) (F := _) Tryz.func139 rfl Tryz.ntmps139 rfl rfl ?_
  intro Rb hRb hRn
  refine tx ?_
  refine sr 1 ?_
  refine sgx ?_
  refine sr 3 ?_
  refine sg rfl (y_move rfl rfl) ?_
  refine sg rfl (y_bin rfl rfl rfl (fun _ => b_leq)) ?_
  refine s1 (y_and rfl rfl rfl) ?_
  refine sr 1 ?_
  refine sgo ?_
  refine tr1 hRb fun w hM => ?_
  exact ⟨rfl, hM.below⟩
theorem named_any (op : Int) (w : World) : Calls Tryz.prog 140 #[.int .i64 op] w fun e w' => e = .returned (.bool (nmdB op)) ∧ Below w.heap.size w w' := by
  refine enter_args (args := [.int .i64 op]) (F := _) Tryz.func140 rfl Tryz.ntmps140 rfl rfl ?_
  intro Rb hRb hRn
  refine tx ?_
  refine sr 1 ?_
  refine sgx ?_
  refine sr 3 ?_
  refine sg rfl (y_move rfl rfl) ?_
  refine sg rfl (y_bin rfl rfl rfl (fun _ => b_eql)) ?_
  refine s1 (y_or rfl rfl rfl) ?_
  refine sr 1 ?_
  refine sgo ?_
  refine tr1 hRb fun w hM => ?_
  exact ⟨rfl, hM.below⟩
theorem worded_any (op : Int) (w : World) : Calls Tryz.prog 141 #[.int .i64 op] w fun e w' => e = .returned (.bool (wrdB op)) ∧ Below w.heap.size w w' := by
  refine enter_args (args := [.int .i64 op]) (F := _) Tryz.func141 rfl Tryz.ntmps141 rfl rfl ?_
  intro Rb hRb hRn
  refine tx ?_
  refine sr 1 ?_
  refine sgx ?_
  refine sr 3 ?_
  refine sg rfl (y_move rfl rfl) ?_
  refine sg rfl (y_bin rfl rfl rfl (fun _ => b_geq)) ?_
  refine s1 (y_or rfl rfl rfl) ?_
  refine sr 1 ?_
  refine sgo ?_
  refine tr1 hRb fun w hM => ?_
  exact ⟨rfl, hM.below⟩
theorem fout_any (n lo hi : Int) (w : World) : Calls Tryz.prog 55 #[.int .i64 n, .int .i64 lo, .int .i64 hi] w fun e w' => e = .returned (.bool (!inB n lo hi)) ∧ Below w.heap.size w w' := by
  refine enter_args (args := [.int .i64 n, .int .i64 lo, .int .i64 hi]) (F := _) Tryz.func55 rfl Tryz.ntmps55 rfl rfl ?_
  intro Rb hRb hRn
  refine tx ?_
  refine sr 1 ?_
  refine sgx ?_
  refine sr 4 ?_
  refine sg rfl (y_move rfl rfl) ?_
  refine sg rfl (y_move rfl rfl) ?_
  refine sg rfl (y_bin rfl rfl rfl (fun _ => b_gtr)) ?_
  refine s1 (y_or rfl rfl rfl) ?_
  refine sr 1 ?_
  refine sgo ?_
  refine tr1 hRb fun w hM => ?_
  exact ⟨by rw [inB, Bool.not_not], hM.below⟩
end Go.Proofs.YtekbcbjimajnfaaGreatDoor
end
section
namespace Go.Proofs.YtekbcbjimajnfaaGreatDoor
set_option linter.unusedSimpArgs false
set_option linter.unusedVariables false
set_option maxRecDepth 20000
open Go.RowKit Go.Eng
abbrev hdX (x : SC) : Int := chdNo txtNo nameOk x.op x.kids.length x.lo x.hi x.nm x.tx
def f1B (x : SC) : Bool := (decide (0 < x.kids.length) && !grpB x.op || ((!decide (x.lo = 0) || !decide (x.hi = 0)) && !rngB x.op) || (!decide (x.nm = []) && !nmdB x.op) || (!decide (x.tx = []) && !wrdB x.op))
def f2B (x : SC) : Bool := ((decide (x.op = 1) || decide (x.op = 2)) && decide (x.kids.length < 2) || decide (x.op = 3) && !decide (x.kids.length = 1))
def r1B (x : SC) : Bool := !inB x.lo (loR x.op) (hiR x.op) || !inB x.hi (loR x.op) (hiR x.op)
theorem hd_def (x : SC) : hdX x = if inB x.op 1 14 = false then 10 else if f1B x = true then 1 else if f2B x = true then 1 else if (rngB x.op && r1B x) = true then 2 else if (rngB x.op && decide (x.hi < x.lo)) = true then 5 else if (nmdB x.op && !nameOk x.nm) = true then 3 else if wrdB x.op = true then txtNo x.tx else 0 := rfl
abbrev chX (x : SC) : Int := chkP (chdNo txtNo nameOk) x.says
theorem chX_def (x : SC) : chX x = if hdX x ≠ 0 then hdX x else chkL (chdNo txtNo nameOk) (x.kids.map SC.says) := by
  show chkP _ x.says = _
  rw [SC.says_form, chkP, List.length_map]
theorem chX_hd {x : SC} {n : Int} (h : hdX x = n) (hn : n ≠ 0) : chX x = n := by rw [chX_def, h, if_pos hn]
theorem chX_kids {x : SC} (h : hdX x = 0) : chX x = chkL (chdNo txtNo nameOk) (x.kids.map SC.says) := by rw [chX_def, h, if_neg (by simp)]
def OneAt (x : SC) : Prop := ∀ w : World, x.Ok w → Calls Tryz.prog 94 #[x.val] w fun e w' => e = .returned (.int .i64 (chX x)) ∧ Below w.heap.size w w'
theorem hd_rest {x : SC} (h1 : inB x.op 1 14 = true) (h2 : f1B x = false) (h3 : f2B x = false) : hdX x = if (rngB x.op && r1B x) = true then 2 else if (rngB x.op && decide (x.hi < x.lo)) = true then 5 else if (nmdB x.op && !nameOk x.nm) = true then 3 else if wrdB x.op = true then txtNo x.tx else 0 := by
  rw [hd_def, if_neg (by rw [h1]; simp), if_neg (by rw [h2]; simp), if_neg (by rw [h3]; simp)]
theorem hd_late {x : SC} (h : hdX x = if (rngB x.op && r1B x) = true then 2 else if (rngB x.op && decide (x.hi < x.lo)) = true then 5 else if (nmdB x.op && !nameOk x.nm) = true then 3 else if wrdB x.op = true then txtNo x.tx else 0) (h1 : (rngB x.op && r1B x) = false) (h2 : (rngB x.op && decide (x.hi < x.lo)) = false) : hdX x = if (nmdB x.op && !nameOk x.nm) = true then 3 else if wrdB x.op = true then txtNo x.tx else 0 := by
  rw [h, if_neg (by rw [h1]; simp), if_neg (by rw [h2]; simp)]
set_option maxHeartbeats 3200000 in
theorem one_step (x : SC) (ih : ∀ k ∈ x.kids, OneAt k) : OneAt x := fun w hok => by
  obtain ⟨hs, hq, hb, hn, ht, hk⟩ := hok.parts
  have hl : SlT SC.enc 6 w x.ad x.q x.kids := hs.t
  have hlen := hl.len
  refine enter_args (args := [.agg #[.int .i64 x.op, .slice x.ad x.q x.c, .int .i64 x.lo, .int .i64 x.hi, str x.nm, str x.tx]]) (F := _) Tryz.func94 rfl Tryz.ntmps94 rfl rfl ?_
  intro Rb hRb hRn
  refine tx ?_
  refine S_box 1 1 rfl rfl rfl rfl rfl ?_
  intro b1
  refine sr 1 ?_
  refine sgs ?_
  refine tx ?_
  refine s1 (yF fa36_0) ?_
  refine s1 (yL 1 Tryz.underlying3) ?_
  refine s1 (y_call rfl rfl rfl cf55 (fun _ w _ => fout_any _ _ _ w)) ?_
  refine sgo ?_
  refine T_cond rfl ?_ ?_ <;> intro h11
  · skip
    have hi1 : inB x.op 1 14 = false := by simpa using h11
    have e1 : chX x = 10 := chX_hd (by rw [hd_def, if_pos hi1]) (by decide)
    refine tx ?_
    refine sr 1 ?_
    refine sgo ?_
    refine tr1 hRb fun w hM => ?_
    first | exact ⟨by rw [e1], hM.below⟩ | exact ⟨by rw [hch, ← hp2, hl.end (by omega)]; rfl, hM.below⟩
  have hi1 : inB x.op 1 14 = true := by simpa using h11
  refine kgs ?_
  refine tx ?_
  refine s1 (yF fa36_1) ?_
  refine s1 (yL 1 Tryz.underlying34) ?_
  refine s1 (y_len_slice rfl rfl Tryz.underlying34) ?_
  refine sr 2 ?_
  refine sg rfl (yF fa36_0) ?_
  refine sg rfl (yL 1 Tryz.underlying3) ?_
  refine sg rfl (y_call rfl rfl rfl cf138 (fun _ w _ => groups_any _ w)) ?_
  refine sg rfl (y_not rfl rfl) ?_
  refine s1 (y_and rfl rfl rfl) ?_
  refine sr 1 ?_
  refine sg rfl (yF fa36_2) ?_
  refine sg rfl (yL 1 Tryz.underlying3) ?_
  refine sg rfl (y_bin rfl rfl rfl (fun _ => b_neq)) ?_
  refine sg rfl (y_move rfl rfl) ?_
  refine sg rfl (yF fa36_3) ?_
  refine sg rfl (yL 1 Tryz.underlying3) ?_
  refine sg rfl (y_bin rfl rfl rfl (fun _ => b_neq)) ?_
  refine sg rfl (y_or rfl rfl rfl) ?_
  refine sg rfl (y_move rfl rfl) ?_
  refine sg rfl (yF fa36_0) ?_
  refine sg rfl (yL 1 Tryz.underlying3) ?_
  refine sg rfl (y_call rfl rfl rfl cf139 (fun _ w _ => ranges_any _ w)) ?_
  refine sg rfl (y_not rfl rfl) ?_
  refine sg rfl (y_and rfl rfl rfl) ?_
  refine s1 (y_or rfl rfl rfl) ?_
  refine sr 1 ?_
  refine sg rfl (yF fa36_4) ?_
  refine sg rfl (yL 1 Tryz.underlying9) ?_
  refine sg rfl (y_bin rfl rfl rfl (fun _ => b_neqs)) ?_
  refine sg rfl (y_move rfl rfl) ?_
  refine sg rfl (yF fa36_0) ?_
  refine sg rfl (yL 1 Tryz.underlying3) ?_
  refine sg rfl (y_call rfl rfl rfl cf140 (fun _ w _ => named_any _ w)) ?_
  refine sg rfl (y_not rfl rfl) ?_
  refine sg rfl (y_and rfl rfl rfl) ?_
  refine s1 (y_or rfl rfl rfl) ?_
  refine sr 1 ?_
  refine sg rfl (yF fa36_5) ?_
  refine sg rfl (yL 1 Tryz.underlying9) ?_
  refine sg rfl (y_bin rfl rfl rfl (fun _ => b_neqs)) ?_
  refine sg rfl (y_move rfl rfl) ?_
  refine sg rfl (yF fa36_0) ?_
  refine sg rfl (yL 1 Tryz.underlying3) ?_
  refine sg rfl (y_call rfl rfl rfl cf141 (fun _ w _ => worded_any _ w)) ?_
  refine sg rfl (y_not rfl rfl) ?_
  refine sg rfl (y_and rfl rfl rfl) ?_
  refine s1 (y_as (v' := .bool (f1B x)) (by simp only [f1B, hlen, Int.natCast_pos]) (y_or rfl rfl rfl)) ?_
  refine sgo ?_
  refine T_cond rfl ?_ ?_ <;> intro h59
  · skip
    have e1 : chX x = 1 := chX_hd (by rw [hd_def, if_neg (by rw [hi1]; simp), if_pos h59]) (by decide)
    refine tx ?_
    refine sr 1 ?_
    refine sgo ?_
    refine tr1 hRb fun w hM => ?_
    first | exact ⟨by rw [e1], hM.below⟩ | exact ⟨by rw [hch, ← hp2, hl.end (by omega)]; rfl, hM.below⟩
  refine kgs ?_
  refine tx ?_
  refine s1 (yF fa36_0) ?_
  refine s1 (yL 1 Tryz.underlying3) ?_
  refine sr 2 ?_
  refine sg rfl (yF fa36_0) ?_
  refine sg rfl (yL 1 Tryz.underlying3) ?_
  refine sg rfl (y_bin rfl rfl rfl (fun _ => b_eql)) ?_
  refine s1 (y_or rfl rfl rfl) ?_
  refine sr 1 ?_
  refine sg rfl (yF fa36_1) ?_
  refine sg rfl (yL 1 Tryz.underlying34) ?_
  refine sg rfl (y_len_slice rfl rfl Tryz.underlying34) ?_
  refine sg rfl (y_bin rfl rfl rfl (fun _ => b_lss)) ?_
  refine s1 (y_and rfl rfl rfl) ?_
  refine sr 1 ?_
  refine sg rfl (yF fa36_0) ?_
  refine sg rfl (yL 1 Tryz.underlying3) ?_
  refine sg rfl (y_bin rfl rfl rfl (fun _ => b_eql)) ?_
  refine sg rfl (y_move rfl rfl) ?_
  refine sg rfl (yF fa36_1) ?_
  refine sg rfl (yL 1 Tryz.underlying34) ?_
  refine sg rfl (y_len_slice rfl rfl Tryz.underlying34) ?_
  refine sg rfl (y_bin rfl rfl rfl (fun _ => b_neq)) ?_
  refine sg rfl (y_and rfl rfl rfl) ?_
  refine s1 (y_as (v' := .bool (f2B x)) (by rw [f2B, hlen, show decide (((x.q : Nat) : Int) < 2) = decide (x.q < 2) from decide_eq_decide.2 (by omega), show decide (((x.q : Nat) : Int) = 1) = decide (x.q = 1) from decide_eq_decide.2 (by omega)]) (y_or rfl rfl rfl)) ?_
  refine sgo ?_
  refine T_cond rfl ?_ ?_ <;> intro h84
  · skip
    have e1 : chX x = 1 := chX_hd (by rw [hd_def, if_neg (by rw [hi1]; simp), if_neg (by rw [h59]; simp), if_pos h84]) (by decide)
    refine tx ?_
    refine sr 1 ?_
    refine sgo ?_
    refine tr1 hRb fun w hM => ?_
    first | exact ⟨by rw [e1], hM.below⟩ | exact ⟨by rw [hch, ← hp2, hl.end (by omega)]; rfl, hM.below⟩
  have hre := hd_rest hi1 h59 h84
  refine kgs ?_
  refine tx ?_
  refine s1 (yF fa36_0) ?_
  refine s1 (yL 1 Tryz.underlying3) ?_
  refine s1 (y_call rfl rfl rfl cf139 (fun _ w _ => ranges_any _ w)) ?_
  refine sgo ?_
  refine T_cond rfl ?_ ?_ <;> intro h87
  · skip
    have hr : rngB x.op = true := h87
    refine tx ?_
    refine sr 2 ?_
    refine sgs ?_
    refine tx ?_
    refine s1 (yF fa36_0) ?_
    refine s1 (yL 1 Tryz.underlying3) ?_
    refine sgo ?_
    refine T_block ?_
    refine tx ?_
    refine sr 2 ?_
    refine sgo ?_
    refine T_cond rfl ?_ ?_ <;> intro h90
    · skip
      have hk5 : x.op = 5 := by simpa using h90
      refine T_region ?_
      refine sr 2 ?_
      refine sgs ?_
      refine tx ?_
      refine s1 (yF fa36_2) ?_
      refine s1 (yL 1 Tryz.underlying3) ?_
      refine sr 2 ?_
      refine s1 (y_call rfl rfl rfl cf55 (fun _ w _ => fout_any _ _ _ w)) ?_
      refine sr 1 ?_
      refine sg rfl (yF fa36_3) ?_
      refine sg rfl (yL 1 Tryz.underlying3) ?_
      refine sg rfl (y_move rfl rfl) ?_
      refine sg rfl (y_move rfl rfl) ?_
      refine sg rfl (y_call rfl rfl rfl cf55 (fun _ w _ => fout_any _ _ _ w)) ?_
      refine s1 (y_as (v' := .bool (r1B x)) (by rw [r1B, loR, hiR, if_pos hk5, if_pos hk5]) (y_or rfl rfl rfl)) ?_
      refine sgo ?_
      refine T_cond rfl ?_ ?_ <;> intro h105
      · skip
        have e1 : chX x = 2 := chX_hd (by rw [hre, if_pos (by rw [hr, h105]; rfl)]) (by decide)
        refine tx ?_
        refine sr 1 ?_
        refine sgo ?_
        refine tr1 hRb fun w hM => ?_
        first | exact ⟨by rw [e1], hM.below⟩ | exact ⟨by rw [hch, ← hp2, hl.end (by omega)]; rfl, hM.below⟩
      refine kgx ?_
      refine s1 (yF fa36_3) ?_
      refine s1 (yL 1 Tryz.underlying3) ?_
      refine s1 (yF fa36_2) ?_
      refine s1 (yL 1 Tryz.underlying3) ?_
      refine sr 1 ?_
      refine sgo ?_
      refine T_cond rfl ?_ ?_ <;> intro h110
      · skip
        have e1 : chX x = 5 := chX_hd (by rw [hre, if_neg (by rw [hr, h105]; simp), if_pos (by rw [hr, h110]; rfl)]) (by decide)
        refine tx ?_
        refine sr 1 ?_
        refine sgo ?_
        refine tr1 hRb fun w hM => ?_
        first | exact ⟨by rw [e1], hM.below⟩ | exact ⟨by rw [hch, ← hp2, hl.end (by omega)]; rfl, hM.below⟩
      have hla := hd_late hre (by rw [hr, h105]; rfl) (by rw [hr, h110]; rfl)
      refine kgs ?_
      refine tx ?_
      refine s1 (yF fa36_0) ?_
      refine s1 (yL 1 Tryz.underlying3) ?_
      refine s1 (y_call rfl rfl rfl cf140 (fun _ w _ => named_any _ w)) ?_
      refine sr 1 ?_
      refine sg rfl (yF fa36_4) ?_
      refine sg rfl (yL 1 Tryz.underlying9) ?_
      refine sg rfl (y_call rfl rfl rfl cf67 (fun _ w _ => IsName_any _ w)) ?_
      refine sg rfl (y_not rfl rfl) ?_
      refine s1 (y_and rfl rfl rfl) ?_
      refine sgo ?_
      refine T_cond rfl ?_ ?_ <;> intro h119
      · skip
        have e1 : chX x = 3 := chX_hd (by rw [hla, if_pos h119]) (by decide)
        refine tx ?_
        refine sr 1 ?_
        refine sgo ?_
        refine tr1 hRb fun w hM => ?_
        first | exact ⟨by rw [e1], hM.below⟩ | exact ⟨by rw [hch, ← hp2, hl.end (by omega)]; rfl, hM.below⟩
      rw [if_neg (by rw [h119]; simp)] at hla
      refine kgs ?_
      refine tx ?_
      refine s1 (yF fa36_0) ?_
      refine s1 (yL 1 Tryz.underlying3) ?_
      refine s1 (y_call rfl rfl rfl cf141 (fun _ w _ => worded_any _ w)) ?_
      refine sgo ?_
      refine T_cond rfl ?_ ?_ <;> intro h122
      · skip
        have hw : wrdB x.op = true := h122
        rw [if_pos hw] at hla
        refine tx ?_
        refine s1 (yF fa36_5) ?_
        refine s1 (yL 1 Tryz.underlying9) ?_
        refine s1 (y_call rfl rfl rfl cf142 (fun _ w _ => checkText_any _ w)) ?_
        refine sr 1 ?_
        refine sgx ?_
        refine sr 2 ?_
        refine sgo ?_
        refine T_cond rfl ?_ ?_ <;> intro h127
        · skip
          have hn0 : txtNo x.tx ≠ 0 := by simpa using h127
          have e1 : chX x = txtNo x.tx := chX_hd hla hn0
          refine tx ?_
          refine sr 2 ?_
          refine sgo ?_
          refine tr1 hRb fun w hM => ?_
          first | exact ⟨by rw [e1], hM.below⟩ | exact ⟨by rw [hch, ← hp2, hl.end (by omega)]; rfl, hM.below⟩
        have hn0 : txtNo x.tx = 0 := by simpa using h127
        have hch := chX_kids (hla.trans hn0)
        refine kgs ?_
        refine tx ?_
        refine s1 (yF fa36_1) ?_
        refine s1 (yL 1 Tryz.underlying34) ?_
        refine s1 (y_len_slice rfl rfl Tryz.underlying34) ?_
        refine sr 1 ?_
        refine sgo ?_
        refine T_block ?_
        refine lK1 (kf := [(2, 2), (7, 8), (132, 141)]) (kl := [(2, 2), (7, 8), (132, 141)]) (fun (i : Nat) => [(132, true, .int .i64 (i : Int))]) (fun (i : Nat) => []) (fun (i : Nat) => i ≤ x.q ∧ chkL (chdNo txtNo nameOk) ((x.kids.drop i).map SC.says) = chkL (chdNo txtNo nameOk) (x.kids.map SC.says)) (fun (i : Nat) => x.q - i) 0 ?_ ?_ ?_ ?_
        · exact ⟨by omega, rfl⟩
        · exact ⟨rfl, trivial⟩
        · exact trivial
        rintro i ⟨hp1, hp2⟩
        refine tx ?_
        refine sr 1 ?_
        refine sgs ?_
        refine T_cond rfl ?_ ?_ <;> intro h133
        · try simp only [nrm] at h133
          obtain ⟨k, hx1, hx2⟩ := hl.at (i := i) (by omega)
          rw [hx2, List.map_cons, chkL] at hp2
          refine kgs ?_
          refine T_block ?_
          refine tx ?_
          refine s1 (y_indexAddr rfl rfl rfl Tryz.underlying34 sz36 (fun hg => hl.isSome (by omega)) (fun _ => by omega)) ?_
          refine s1 (y_loadT rfl rfl hl (fun _ => rfl) (fun _ => hx1) Tryz.underlying36 rfl sz36) ?_
          refine S_alloc 7 7 rfl rfl rfl rfl z36 ?_
          intro b7
          refine S_store 7 rfl rfl rfl rfl rfl rfl sz36 rfl rfl ?_
          refine sgx ?_
          refine s1 (yA 7 rfl Tryz.underlying36 sz36) ?_
          refine s1 (y_call rfl rfl rfl cf94 (fun _ w1 hM => ih k (mem_at hx1) w1 ((hk k (mem_at hx1)).lift hM.below))) ?_
          refine sr 1 ?_
          refine sgx ?_
          refine sr 2 ?_
          refine sgo ?_
          refine T_cond rfl ?_ ?_ <;> intro h139
          · skip
            have hn1 : chX k ≠ 0 := by simpa using h139
            rw [if_pos hn1] at hp2
            have e1 : chX x = chX k := by rw [hch, ← hp2]
            refine tx ?_
            refine sr 2 ?_
            refine sgo ?_
            refine tr1 hRb fun w hM => ?_
            first | exact ⟨by rw [e1], hM.below⟩ | exact ⟨by rw [hch, ← hp2, hl.end (by omega)]; rfl, hM.below⟩
          have hn1 : chX k = 0 := by simpa using h139
          rw [if_neg (by rw [show chkP (chdNo txtNo nameOk) k.says = chX k from rfl, hn1]; simp)] at hp2
          refine kgr ?_
          refine s1 (y_bin rfl rfl rfl (fun hg => b_add (by omega))) ?_
          refine sr 1 ?_
          refine S_nil (nK1 (kf := [(2, 2), (7, 8), (132, 141)]) (kl := [(2, 2), (7, 8), (132, 141)]) (i + 1) ?_ ?_ ?_ ?_)
          · omega
          · exact ⟨by omega, hp2⟩
          · exact ⟨rfl, trivial⟩
          · exact trivial
        try simp only [nrm] at h133
        refine egx ?_
        refine sr 1 ?_
        refine sgo ?_
        refine tr1 hRb fun w hM => ?_
        first | exact ⟨by rw [e1], hM.below⟩ | exact ⟨by rw [hch, ← hp2, hl.end (by omega)]; rfl, hM.below⟩
      have hw : wrdB x.op = false := h122
      rw [if_neg (by rw [hw]; simp)] at hla
      have hch := chX_kids hla
      refine kgs ?_
      refine tx ?_
      refine s1 (yF fa36_1) ?_
      refine s1 (yL 1 Tryz.underlying34) ?_
      refine s1 (y_len_slice rfl rfl Tryz.underlying34) ?_
      refine sr 1 ?_
      refine sgo ?_
      refine T_block ?_
      refine lK1 (kf := [(2, 2), (7, 8), (132, 141)]) (kl := [(2, 2), (7, 8), (132, 141)]) (fun (i : Nat) => [(132, true, .int .i64 (i : Int))]) (fun (i : Nat) => []) (fun (i : Nat) => i ≤ x.q ∧ chkL (chdNo txtNo nameOk) ((x.kids.drop i).map SC.says) = chkL (chdNo txtNo nameOk) (x.kids.map SC.says)) (fun (i : Nat) => x.q - i) 0 ?_ ?_ ?_ ?_
      · exact ⟨by omega, rfl⟩
      · exact ⟨rfl, trivial⟩
      · exact trivial
      rintro i ⟨hp1, hp2⟩
      refine tx ?_
      refine sr 1 ?_
      refine sgs ?_
      refine T_cond rfl ?_ ?_ <;> intro h133
      · try simp only [nrm] at h133
        obtain ⟨k, hx1, hx2⟩ := hl.at (i := i) (by omega)
        rw [hx2, List.map_cons, chkL] at hp2
        refine kgs ?_
        refine T_block ?_
        refine tx ?_
        refine s1 (y_indexAddr rfl rfl rfl Tryz.underlying34 sz36 (fun hg => hl.isSome (by omega)) (fun _ => by omega)) ?_
        refine s1 (y_loadT rfl rfl hl (fun _ => rfl) (fun _ => hx1) Tryz.underlying36 rfl sz36) ?_
        refine S_alloc 7 7 rfl rfl rfl rfl z36 ?_
        intro b7
        refine S_store 7 rfl rfl rfl rfl rfl rfl sz36 rfl rfl ?_
        refine sgx ?_
        refine s1 (yA 7 rfl Tryz.underlying36 sz36) ?_
        refine s1 (y_call rfl rfl rfl cf94 (fun _ w1 hM => ih k (mem_at hx1) w1 ((hk k (mem_at hx1)).lift hM.below))) ?_
        refine sr 1 ?_
        refine sgx ?_
        refine sr 2 ?_
        refine sgo ?_
        refine T_cond rfl ?_ ?_ <;> intro h139
        · skip
          have hn1 : chX k ≠ 0 := by simpa using h139
          rw [if_pos hn1] at hp2
          have e1 : chX x = chX k := by rw [hch, ← hp2]
          refine tx ?_
          refine sr 2 ?_
          refine sgo ?_
          refine tr1 hRb fun w hM => ?_
          first | exact ⟨by rw [e1], hM.below⟩ | exact ⟨by rw [hch, ← hp2, hl.end (by omega)]; rfl, hM.below⟩
        have hn1 : chX k = 0 := by simpa using h139
        rw [if_neg (by rw [show chkP (chdNo txtNo nameOk) k.says = chX k from rfl, hn1]; simp)] at hp2
        refine kgr ?_
        refine s1 (y_bin rfl rfl rfl (fun hg => b_add (by omega))) ?_
        refine sr 1 ?_
        refine S_nil (nK1 (kf := [(2, 2), (7, 8), (132, 141)]) (kl := [(2, 2), (7, 8), (132, 141)]) (i + 1) ?_ ?_ ?_ ?_)
        · omega
        · exact ⟨by omega, hp2⟩
        · exact ⟨rfl, trivial⟩
        · exact trivial
      try simp only [nrm] at h133
      refine egx ?_
      refine sr 1 ?_
      refine sgo ?_
      refine tr1 hRb fun w hM => ?_
      first | exact ⟨by rw [e1], hM.below⟩ | exact ⟨by rw [hch, ← hp2, hl.end (by omega)]; rfl, hM.below⟩
    have hk5 : ¬ x.op = 5 := by simpa using h90
    refine tx ?_
    refine sr 2 ?_
    refine sgo ?_
    refine T_cond rfl ?_ ?_ <;> intro h92
    · skip
      have hk6 : x.op = 6 := by simpa using h92
      refine T_region ?_
      refine sr 1 ?_
      refine sgs ?_
      refine tx ?_
      refine s1 (yF fa36_2) ?_
      refine s1 (yL 1 Tryz.underlying3) ?_
      refine sr 2 ?_
      refine s1 (y_call rfl rfl rfl cf55 (fun _ w _ => fout_any _ _ _ w)) ?_
      refine sr 1 ?_
      refine sg rfl (yF fa36_3) ?_
      refine sg rfl (yL 1 Tryz.underlying3) ?_
      refine sg rfl (y_move rfl rfl) ?_
      refine sg rfl (y_move rfl rfl) ?_
      refine sg rfl (y_call rfl rfl rfl cf55 (fun _ w _ => fout_any _ _ _ w)) ?_
      refine s1 (y_as (v' := .bool (r1B x)) (by rw [r1B, loR, hiR, if_neg hk5, if_neg hk5, if_pos hk6]) (y_or rfl rfl rfl)) ?_
      refine sgo ?_
      refine T_cond rfl ?_ ?_ <;> intro h105
      · skip
        have e1 : chX x = 2 := chX_hd (by rw [hre, if_pos (by rw [hr, h105]; rfl)]) (by decide)
        refine tx ?_
        refine sr 1 ?_
        refine sgo ?_
        refine tr1 hRb fun w hM => ?_
        first | exact ⟨by rw [e1], hM.below⟩ | exact ⟨by rw [hch, ← hp2, hl.end (by omega)]; rfl, hM.below⟩
      refine kgx ?_
      refine s1 (yF fa36_3) ?_
      refine s1 (yL 1 Tryz.underlying3) ?_
      refine s1 (yF fa36_2) ?_
      refine s1 (yL 1 Tryz.underlying3) ?_
      refine sr 1 ?_
      refine sgo ?_
      refine T_cond rfl ?_ ?_ <;> intro h110
      · skip
        have e1 : chX x = 5 := chX_hd (by rw [hre, if_neg (by rw [hr, h105]; simp), if_pos (by rw [hr, h110]; rfl)]) (by decide)
        refine tx ?_
        refine sr 1 ?_
        refine sgo ?_
        refine tr1 hRb fun w hM => ?_
        first | exact ⟨by rw [e1], hM.below⟩ | exact ⟨by rw [hch, ← hp2, hl.end (by omega)]; rfl, hM.below⟩
      have hla := hd_late hre (by rw [hr, h105]; rfl) (by rw [hr, h110]; rfl)
      refine kgs ?_
      refine tx ?_
      refine s1 (yF fa36_0) ?_
      refine s1 (yL 1 Tryz.underlying3) ?_
      refine s1 (y_call rfl rfl rfl cf140 (fun _ w _ => named_any _ w)) ?_
      refine sr 1 ?_
      refine sg rfl (yF fa36_4) ?_
      refine sg rfl (yL 1 Tryz.underlying9) ?_
      refine sg rfl (y_call rfl rfl rfl cf67 (fun _ w _ => IsName_any _ w)) ?_
      refine sg rfl (y_not rfl rfl) ?_
      refine s1 (y_and rfl rfl rfl) ?_
      refine sgo ?_
      refine T_cond rfl ?_ ?_ <;> intro h119
      · skip
        have e1 : chX x = 3 := chX_hd (by rw [hla, if_pos h119]) (by decide)
        refine tx ?_
        refine sr 1 ?_
        refine sgo ?_
        refine tr1 hRb fun w hM => ?_
        first | exact ⟨by rw [e1], hM.below⟩ | exact ⟨by rw [hch, ← hp2, hl.end (by omega)]; rfl, hM.below⟩
      rw [if_neg (by rw [h119]; simp)] at hla
      refine kgs ?_
      refine tx ?_
      refine s1 (yF fa36_0) ?_
      refine s1 (yL 1 Tryz.underlying3) ?_
      refine s1 (y_call rfl rfl rfl cf141 (fun _ w _ => worded_any _ w)) ?_
      refine sgo ?_
      refine T_cond rfl ?_ ?_ <;> intro h122
      · skip
        have hw : wrdB x.op = true := h122
        rw [if_pos hw] at hla
        refine tx ?_
        refine s1 (yF fa36_5) ?_
        refine s1 (yL 1 Tryz.underlying9) ?_
        refine s1 (y_call rfl rfl rfl cf142 (fun _ w _ => checkText_any _ w)) ?_
        refine sr 1 ?_
        refine sgx ?_
        refine sr 2 ?_
        refine sgo ?_
        refine T_cond rfl ?_ ?_ <;> intro h127
        · skip
          have hn0 : txtNo x.tx ≠ 0 := by simpa using h127
          have e1 : chX x = txtNo x.tx := chX_hd hla hn0
          refine tx ?_
          refine sr 2 ?_
          refine sgo ?_
          refine tr1 hRb fun w hM => ?_
          first | exact ⟨by rw [e1], hM.below⟩ | exact ⟨by rw [hch, ← hp2, hl.end (by omega)]; rfl, hM.below⟩
        have hn0 : txtNo x.tx = 0 := by simpa using h127
        have hch := chX_kids (hla.trans hn0)
        refine kgs ?_
        refine tx ?_
        refine s1 (yF fa36_1) ?_
        refine s1 (yL 1 Tryz.underlying34) ?_
        refine s1 (y_len_slice rfl rfl Tryz.underlying34) ?_
        refine sr 1 ?_
        refine sgo ?_
        refine T_block ?_
        refine lK1 (kf := [(2, 2), (7, 8), (132, 141)]) (kl := [(2, 2), (7, 8), (132, 141)]) (fun (i : Nat) => [(132, true, .int .i64 (i : Int))]) (fun (i : Nat) => []) (fun (i : Nat) => i ≤ x.q ∧ chkL (chdNo txtNo nameOk) ((x.kids.drop i).map SC.says) = chkL (chdNo txtNo nameOk) (x.kids.map SC.says)) (fun (i : Nat) => x.q - i) 0 ?_ ?_ ?_ ?_
        · exact ⟨by omega, rfl⟩
        · exact ⟨rfl, trivial⟩
        · exact trivial
        rintro i ⟨hp1, hp2⟩
        refine tx ?_
        refine sr 1 ?_
        refine sgs ?_
        refine T_cond rfl ?_ ?_ <;> intro h133
        · try simp only [nrm] at h133
          obtain ⟨k, hx1, hx2⟩ := hl.at (i := i) (by omega)
          rw [hx2, List.map_cons, chkL] at hp2
          refine kgs ?_
          refine T_block ?_
          refine tx ?_
          refine s1 (y_indexAddr rfl rfl rfl Tryz.underlying34 sz36 (fun hg => hl.isSome (by omega)) (fun _ => by omega)) ?_
          refine s1 (y_loadT rfl rfl hl (fun _ => rfl) (fun _ => hx1) Tryz.underlying36 rfl sz36) ?_
          refine S_alloc 7 7 rfl rfl rfl rfl z36 ?_
          intro b7
          refine S_store 7 rfl rfl rfl rfl rfl rfl sz36 rfl rfl ?_
          refine sgx ?_
          refine s1 (yA 7 rfl Tryz.underlying36 sz36) ?_
          refine s1 (y_call rfl rfl rfl cf94 (fun _ w1 hM => ih k (mem_at hx1) w1 ((hk k (mem_at hx1)).lift hM.below))) ?_
          refine sr 1 ?_
          refine sgx ?_
          refine sr 2 ?_
          refine sgo ?_
          refine T_cond rfl ?_ ?_ <;> intro h139
          · skip
            have hn1 : chX k ≠ 0 := by simpa using h139
            rw [if_pos hn1] at hp2
            have e1 : chX x = chX k := by rw [hch, ← hp2]
            refine tx ?_
            refine sr 2 ?_
            refine sgo ?_
            refine tr1 hRb fun w hM => ?_
            first | exact ⟨by rw [e1], hM.below⟩ | exact ⟨by rw [hch, ← hp2, hl.end (by omega)]; rfl, hM.below⟩
          have hn1 : chX k = 0 := by simpa using h139
          rw [if_neg (by rw [show chkP (chdNo txtNo nameOk) k.says = chX k from rfl, hn1]; simp)] at hp2
          refine kgr ?_
          refine s1 (y_bin rfl rfl rfl (fun hg => b_add (by omega))) ?_
          refine sr 1 ?_
          refine S_nil (nK1 (kf := [(2, 2), (7, 8), (132, 141)]) (kl := [(2, 2), (7, 8), (132, 141)]) (i + 1) ?_ ?_ ?_ ?_)
          · omega
          · exact ⟨by omega, hp2⟩
          · exact ⟨rfl, trivial⟩
          · exact trivial
        try simp only [nrm] at h133
        refine egx ?_
        refine sr 1 ?_
        refine sgo ?_
        refine tr1 hRb fun w hM => ?_
        first | exact ⟨by rw [e1], hM.below⟩ | exact ⟨by rw [hch, ← hp2, hl.end (by omega)]; rfl, hM.below⟩
      have hw : wrdB x.op = false := h122
      rw [if_neg (by rw [hw]; simp)] at hla
      have hch := chX_kids hla
      refine kgs ?_
      refine tx ?_
      refine s1 (yF fa36_1) ?_
      refine s1 (yL 1 Tryz.underlying34) ?_
      refine s1 (y_len_slice rfl rfl Tryz.underlying34) ?_
      refine sr 1 ?_
      refine sgo ?_
      refine T_block ?_
      refine lK1 (kf := [(2, 2), (7, 8), (132, 141)]) (kl := [(2, 2), (7, 8), (132, 141)]) (fun (i : Nat) => [(132, true, .int .i64 (i : Int))]) (fun (i : Nat) => []) (fun (i : Nat) => i ≤ x.q ∧ chkL (chdNo txtNo nameOk) ((x.kids.drop i).map SC.says) = chkL (chdNo txtNo nameOk) (x.kids.map SC.says)) (fun (i : Nat) => x.q - i) 0 ?_ ?_ ?_ ?_
      · exact ⟨by omega, rfl⟩
      · exact ⟨rfl, trivial⟩
      · exact trivial
      rintro i ⟨hp1, hp2⟩
      refine tx ?_
      refine sr 1 ?_
      refine sgs ?_
      refine T_cond rfl ?_ ?_ <;> intro h133
      · try simp only [nrm] at h133
        obtain ⟨k, hx1, hx2⟩ := hl.at (i := i) (by omega)
        rw [hx2, List.map_cons, chkL] at hp2
        refine kgs ?_
        refine T_block ?_
        refine tx ?_
        refine s1 (y_indexAddr rfl rfl rfl Tryz.underlying34 sz36 (fun hg => hl.isSome (by omega)) (fun _ => by omega)) ?_
        refine s1 (y_loadT rfl rfl hl (fun _ => rfl) (fun _ => hx1) Tryz.underlying36 rfl sz36) ?_
        refine S_alloc 7 7 rfl rfl rfl rfl z36 ?_
        intro b7
        refine S_store 7 rfl rfl rfl rfl rfl rfl sz36 rfl rfl ?_
        refine sgx ?_
        refine s1 (yA 7 rfl Tryz.underlying36 sz36) ?_
        refine s1 (y_call rfl rfl rfl cf94 (fun _ w1 hM => ih k (mem_at hx1) w1 ((hk k (mem_at hx1)).lift hM.below))) ?_
        refine sr 1 ?_
        refine sgx ?_
        refine sr 2 ?_
        refine sgo ?_
        refine T_cond rfl ?_ ?_ <;> intro h139
        · skip
          have hn1 : chX k ≠ 0 := by simpa using h139
          rw [if_pos hn1] at hp2
          have e1 : chX x = chX k := by rw [hch, ← hp2]
          refine tx ?_
          refine sr 2 ?_
          refine sgo ?_
          refine tr1 hRb fun w hM => ?_
          first | exact ⟨by rw [e1], hM.below⟩ | exact ⟨by rw [hch, ← hp2, hl.end (by omega)]; rfl, hM.below⟩
        have hn1 : chX k = 0 := by simpa using h139
        rw [if_neg (by rw [show chkP (chdNo txtNo nameOk) k.says = chX k from rfl, hn1]; simp)] at hp2
        refine kgr ?_
        refine s1 (y_bin rfl rfl rfl (fun hg => b_add (by omega))) ?_
        refine sr 1 ?_
        refine S_nil (nK1 (kf := [(2, 2), (7, 8), (132, 141)]) (kl := [(2, 2), (7, 8), (132, 141)]) (i + 1) ?_ ?_ ?_ ?_)
        · omega
        · exact ⟨by omega, hp2⟩
        · exact ⟨rfl, trivial⟩
        · exact trivial
      try simp only [nrm] at h133
      refine egx ?_
      refine sr 1 ?_
      refine sgo ?_
      refine tr1 hRb fun w hM => ?_
      first | exact ⟨by rw [e1], hM.below⟩ | exact ⟨by rw [hch, ← hp2, hl.end (by omega)]; rfl, hM.below⟩
    have hk6 : ¬ x.op = 6 := by simpa using h92
    refine kgs ?_
    refine tx ?_
    refine s1 (yF fa36_2) ?_
    refine s1 (yL 1 Tryz.underlying3) ?_
    refine sr 2 ?_
    refine s1 (y_call rfl rfl rfl cf55 (fun _ w _ => fout_any _ _ _ w)) ?_
    refine sr 1 ?_
    refine sg rfl (yF fa36_3) ?_
    refine sg rfl (yL 1 Tryz.underlying3) ?_
    refine sg rfl (y_move rfl rfl) ?_
    refine sg rfl (y_move rfl rfl) ?_
    refine sg rfl (y_call rfl rfl rfl cf55 (fun _ w _ => fout_any _ _ _ w)) ?_
    refine s1 (y_as (v' := .bool (r1B x)) (by rw [r1B, loR, hiR, if_neg hk5, if_neg hk5, if_neg hk6]) (y_or rfl rfl rfl)) ?_
    refine sgo ?_
    refine T_cond rfl ?_ ?_ <;> intro h105
    · skip
      have e1 : chX x = 2 := chX_hd (by rw [hre, if_pos (by rw [hr, h105]; rfl)]) (by decide)
      refine tx ?_
      refine sr 1 ?_
      refine sgo ?_
      refine tr1 hRb fun w hM => ?_
      first | exact ⟨by rw [e1], hM.below⟩ | exact ⟨by rw [hch, ← hp2, hl.end (by omega)]; rfl, hM.below⟩
    refine kgx ?_
    refine s1 (yF fa36_3) ?_
    refine s1 (yL 1 Tryz.underlying3) ?_
    refine s1 (yF fa36_2) ?_
    refine s1 (yL 1 Tryz.underlying3) ?_
    refine sr 1 ?_
    refine sgo ?_
    refine T_cond rfl ?_ ?_ <;> intro h110
    · skip
      have e1 : chX x = 5 := chX_hd (by rw [hre, if_neg (by rw [hr, h105]; simp), if_pos (by rw [hr, h110]; rfl)]) (by decide)
      refine tx ?_
      refine sr 1 ?_
      refine sgo ?_
      refine tr1 hRb fun w hM => ?_
      first | exact ⟨by rw [e1], hM.below⟩ | exact ⟨by rw [hch, ← hp2, hl.end (by omega)]; rfl, hM.below⟩
    have hla := hd_late hre (by rw [hr, h105]; rfl) (by rw [hr, h110]; rfl)
    refine kgs ?_
    refine tx ?_
    refine s1 (yF fa36_0) ?_
    refine s1 (yL 1 Tryz.underlying3) ?_
    refine s1 (y_call rfl rfl rfl cf140 (fun _ w _ => named_any _ w)) ?_
    refine sr 1 ?_
    refine sg rfl (yF fa36_4) ?_
    refine sg rfl (yL 1 Tryz.underlying9) ?_
    refine sg rfl (y_call rfl rfl rfl cf67 (fun _ w _ => IsName_any _ w)) ?_
    refine sg rfl (y_not rfl rfl) ?_
    refine s1 (y_and rfl rfl rfl) ?_
    refine sgo ?_
    refine T_cond rfl ?_ ?_ <;> intro h119
    · skip
      have e1 : chX x = 3 := chX_hd (by rw [hla, if_pos h119]) (by decide)
      refine tx ?_
      refine sr 1 ?_
      refine sgo ?_
      refine tr1 hRb fun w hM => ?_
      first | exact ⟨by rw [e1], hM.below⟩ | exact ⟨by rw [hch, ← hp2, hl.end (by omega)]; rfl, hM.below⟩
    rw [if_neg (by rw [h119]; simp)] at hla
    refine kgs ?_
    refine tx ?_
    refine s1 (yF fa36_0) ?_
    refine s1 (yL 1 Tryz.underlying3) ?_
    refine s1 (y_call rfl rfl rfl cf141 (fun _ w _ => worded_any _ w)) ?_
    refine sgo ?_
    refine T_cond rfl ?_ ?_ <;> intro h122
    · skip
      have hw : wrdB x.op = true := h122
      rw [if_pos hw] at hla
      refine tx ?_
      refine s1 (yF fa36_5) ?_
      refine s1 (yL 1 Tryz.underlying9) ?_
      refine s1 (y_call rfl rfl rfl cf142 (fun _ w _ => checkText_any _ w)) ?_
      refine sr 1 ?_
      refine sgx ?_
      refine sr 2 ?_
      refine sgo ?_
      refine T_cond rfl ?_ ?_ <;> intro h127
      · skip
        have hn0 : txtNo x.tx ≠ 0 := by simpa using h127
        have e1 : chX x = txtNo x.tx := chX_hd hla hn0
        refine tx ?_
        refine sr 2 ?_
        refine sgo ?_
        refine tr1 hRb fun w hM => ?_
        first | exact ⟨by rw [e1], hM.below⟩ | exact ⟨by rw [hch, ← hp2, hl.end (by omega)]; rfl, hM.below⟩
      have hn0 : txtNo x.tx = 0 := by simpa using h127
      have hch := chX_kids (hla.trans hn0)
      refine kgs ?_
      refine tx ?_
      refine s1 (yF fa36_1) ?_
      refine s1 (yL 1 Tryz.underlying34) ?_
      refine s1 (y_len_slice rfl rfl Tryz.underlying34) ?_
      refine sr 1 ?_
      refine sgo ?_
      refine T_block ?_
      refine lK1 (kf := [(2, 2), (7, 8), (132, 141)]) (kl := [(2, 2), (7, 8), (132, 141)]) (fun (i : Nat) => [(132, true, .int .i64 (i : Int))]) (fun (i : Nat) => []) (fun (i : Nat) => i ≤ x.q ∧ chkL (chdNo txtNo nameOk) ((x.kids.drop i).map SC.says) = chkL (chdNo txtNo nameOk) (x.kids.map SC.says)) (fun (i : Nat) => x.q - i) 0 ?_ ?_ ?_ ?_
      · exact ⟨by omega, rfl⟩
      · exact ⟨rfl, trivial⟩
      · exact trivial
      rintro i ⟨hp1, hp2⟩
      refine tx ?_
      refine sr 1 ?_
      refine sgs ?_
      refine T_cond rfl ?_ ?_ <;> intro h133
      · try simp only [nrm] at h133
        obtain ⟨k, hx1, hx2⟩ := hl.at (i := i) (by omega)
        rw [hx2, List.map_cons, chkL] at hp2
        refine kgs ?_
        refine T_block ?_
        refine tx ?_
        refine s1 (y_indexAddr rfl rfl rfl Tryz.underlying34 sz36 (fun hg => hl.isSome (by omega)) (fun _ => by omega)) ?_
        refine s1 (y_loadT rfl rfl hl (fun _ => rfl) (fun _ => hx1) Tryz.underlying36 rfl sz36) ?_
        refine S_alloc 7 7 rfl rfl rfl rfl z36 ?_
        intro b7
        refine S_store 7 rfl rfl rfl rfl rfl rfl sz36 rfl rfl ?_
        refine sgx ?_
        refine s1 (yA 7 rfl Tryz.underlying36 sz36) ?_
        refine s1 (y_call rfl rfl rfl cf94 (fun _ w1 hM => ih k (mem_at hx1) w1 ((hk k (mem_at hx1)).lift hM.below))) ?_
        refine sr 1 ?_
        refine sgx ?_
        refine sr 2 ?_
        refine sgo ?_
        refine T_cond rfl ?_ ?_ <;> intro h139
        · skip
          have hn1 : chX k ≠ 0 := by simpa using h139
          rw [if_pos hn1] at hp2
          have e1 : chX x = chX k := by rw [hch, ← hp2]
          refine tx ?_
          refine sr 2 ?_
          refine sgo ?_
          refine tr1 hRb fun w hM => ?_
          first | exact ⟨by rw [e1], hM.below⟩ | exact ⟨by rw [hch, ← hp2, hl.end (by omega)]; rfl, hM.below⟩
        have hn1 : chX k = 0 := by simpa using h139
        rw [if_neg (by rw [show chkP (chdNo txtNo nameOk) k.says = chX k from rfl, hn1]; simp)] at hp2
        refine kgr ?_
        refine s1 (y_bin rfl rfl rfl (fun hg => b_add (by omega))) ?_
        refine sr 1 ?_
        refine S_nil (nK1 (kf := [(2, 2), (7, 8), (132, 141)]) (kl := [(2, 2), (7, 8), (132, 141)]) (i + 1) ?_ ?_ ?_ ?_)
        · omega
        · exact ⟨by omega, hp2⟩
        · exact ⟨rfl, trivial⟩
        · exact trivial
      try simp only [nrm] at h133
      refine egx ?_
      refine sr 1 ?_
      refine sgo ?_
      refine tr1 hRb fun w hM => ?_
      first | exact ⟨by rw [e1], hM.below⟩ | exact ⟨by rw [hch, ← hp2, hl.end (by omega)]; rfl, hM.below⟩
    have hw : wrdB x.op = false := h122
    rw [if_neg (by rw [hw]; simp)] at hla
    have hch := chX_kids hla
    refine kgs ?_
    refine tx ?_
    refine s1 (yF fa36_1) ?_
    refine s1 (yL 1 Tryz.underlying34) ?_
    refine s1 (y_len_slice rfl rfl Tryz.underlying34) ?_
    refine sr 1 ?_
    refine sgo ?_
    refine T_block ?_
    refine lK1 (kf := [(2, 2), (7, 8), (132, 141)]) (kl := [(2, 2), (7, 8), (132, 141)]) (fun (i : Nat) => [(132, true, .int .i64 (i : Int))]) (fun (i : Nat) => []) (fun (i : Nat) => i ≤ x.q ∧ chkL (chdNo txtNo nameOk) ((x.kids.drop i).map SC.says) = chkL (chdNo txtNo nameOk) (x.kids.map SC.says)) (fun (i : Nat) => x.q - i) 0 ?_ ?_ ?_ ?_
    · exact ⟨by omega, rfl⟩
    · exact ⟨rfl, trivial⟩
    · exact trivial
    rintro i ⟨hp1, hp2⟩
    refine tx ?_
    refine sr 1 ?_
    refine sgs ?_
    refine T_cond rfl ?_ ?_ <;> intro h133
    · try simp only [nrm] at h133
      obtain ⟨k, hx1, hx2⟩ := hl.at (i := i) (by omega)
      rw [hx2, List.map_cons, chkL] at hp2
      refine kgs ?_
      refine T_block ?_
      refine tx ?_
      refine s1 (y_indexAddr rfl rfl rfl Tryz.underlying34 sz36 (fun hg => hl.isSome (by omega)) (fun _ => by omega)) ?_
      refine s1 (y_loadT rfl rfl hl (fun _ => rfl) (fun _ => hx1) Tryz.underlying36 rfl sz36) ?_
      refine S_alloc 7 7 rfl rfl rfl rfl z36 ?_
      intro b7
      refine S_store 7 rfl rfl rfl rfl rfl rfl sz36 rfl rfl ?_
      refine sgx ?_
      refine s1 (yA 7 rfl Tryz.underlying36 sz36) ?_
      refine s1 (y_call rfl rfl rfl cf94 (fun _ w1 hM => ih k (mem_at hx1) w1 ((hk k (mem_at hx1)).lift hM.below))) ?_
      refine sr 1 ?_
      refine sgx ?_
      refine sr 2 ?_
      refine sgo ?_
      refine T_cond rfl ?_ ?_ <;> intro h139
      · skip
        have hn1 : chX k ≠ 0 := by simpa using h139
        rw [if_pos hn1] at hp2
        have e1 : chX x = chX k := by rw [hch, ← hp2]
        refine tx ?_
        refine sr 2 ?_
        refine sgo ?_
        refine tr1 hRb fun w hM => ?_
        first | exact ⟨by rw [e1], hM.below⟩ | exact ⟨by rw [hch, ← hp2, hl.end (by omega)]; rfl, hM.below⟩
      have hn1 : chX k = 0 := by simpa using h139
      rw [if_neg (by rw [show chkP (chdNo txtNo nameOk) k.says = chX k from rfl, hn1]; simp)] at hp2
      refine kgr ?_
      refine s1 (y_bin rfl rfl rfl (fun hg => b_add (by omega))) ?_
      refine sr 1 ?_
      refine S_nil (nK1 (kf := [(2, 2), (7, 8), (132, 141)]) (kl := [(2, 2), (7, 8), (132, 141)]) (i + 1) ?_ ?_ ?_ ?_)
      · omega
      · exact ⟨by omega, hp2⟩
      · exact ⟨rfl, trivial⟩
      · exact trivial
    try simp only [nrm] at h133
    refine egx ?_
    refine sr 1 ?_
    refine sgo ?_
    refine tr1 hRb fun w hM => ?_
    first | exact ⟨by rw [e1], hM.below⟩ | exact ⟨by rw [hch, ← hp2, hl.end (by omega)]; rfl, hM.below⟩
  have hr : rngB x.op = false := h87
  have hla := hd_late hre (by rw [hr]; rfl) (by rw [hr]; rfl)
  refine kgs ?_
  refine tx ?_
  refine s1 (yF fa36_0) ?_
  refine s1 (yL 1 Tryz.underlying3) ?_
  refine s1 (y_call rfl rfl rfl cf140 (fun _ w _ => named_any _ w)) ?_
  refine sr 1 ?_
  refine sg rfl (yF fa36_4) ?_
  refine sg rfl (yL 1 Tryz.underlying9) ?_
  refine sg rfl (y_call rfl rfl rfl cf67 (fun _ w _ => IsName_any _ w)) ?_
  refine sg rfl (y_not rfl rfl) ?_
  refine s1 (y_and rfl rfl rfl) ?_
  refine sgo ?_
  refine T_cond rfl ?_ ?_ <;> intro h119
  · skip
    have e1 : chX x = 3 := chX_hd (by rw [hla, if_pos h119]) (by decide)
    refine tx ?_
    refine sr 1 ?_
    refine sgo ?_
    refine tr1 hRb fun w hM => ?_
    first | exact ⟨by rw [e1], hM.below⟩ | exact ⟨by rw [hch, ← hp2, hl.end (by omega)]; rfl, hM.below⟩
  rw [if_neg (by rw [h119]; simp)] at hla
  refine kgs ?_
  refine tx ?_
  refine s1 (yF fa36_0) ?_
  refine s1 (yL 1 Tryz.underlying3) ?_
  refine s1 (y_call rfl rfl rfl cf141 (fun _ w _ => worded_any _ w)) ?_
  refine sgo ?_
  refine T_cond rfl ?_ ?_ <;> intro h122
  · skip
    have hw : wrdB x.op = true := h122
    rw [if_pos hw] at hla
    refine tx ?_
    refine s1 (yF fa36_5) ?_
    refine s1 (yL 1 Tryz.underlying9) ?_
    refine s1 (y_call rfl rfl rfl cf142 (fun _ w _ => checkText_any _ w)) ?_
    refine sr 1 ?_
    refine sgx ?_
    refine sr 2 ?_
    refine sgo ?_
    refine T_cond rfl ?_ ?_ <;> intro h127
    · skip
      have hn0 : txtNo x.tx ≠ 0 := by simpa using h127
      have e1 : chX x = txtNo x.tx := chX_hd hla hn0
      refine tx ?_
      refine sr 2 ?_
      refine sgo ?_
      refine tr1 hRb fun w hM => ?_
      first | exact ⟨by rw [e1], hM.below⟩ | exact ⟨by rw [hch, ← hp2, hl.end (by omega)]; rfl, hM.below⟩
    have hn0 : txtNo x.tx = 0 := by simpa using h127
    have hch := chX_kids (hla.trans hn0)
    refine kgs ?_
    refine tx ?_
    refine s1 (yF fa36_1) ?_
    refine s1 (yL 1 Tryz.underlying34) ?_
    refine s1 (y_len_slice rfl rfl Tryz.underlying34) ?_
    refine sr 1 ?_
    refine sgo ?_
    refine T_block ?_
    refine lK1 (kf := [(2, 2), (7, 8), (132, 141)]) (kl := [(2, 2), (7, 8), (132, 141)]) (fun (i : Nat) => [(132, true, .int .i64 (i : Int))]) (fun (i : Nat) => []) (fun (i : Nat) => i ≤ x.q ∧ chkL (chdNo txtNo nameOk) ((x.kids.drop i).map SC.says) = chkL (chdNo txtNo nameOk) (x.kids.map SC.says)) (fun (i : Nat) => x.q - i) 0 ?_ ?_ ?_ ?_
    · exact ⟨by omega, rfl⟩
    · exact ⟨rfl, trivial⟩
    · exact trivial
    rintro i ⟨hp1, hp2⟩
    refine tx ?_
    refine sr 1 ?_
    refine sgs ?_
    refine T_cond rfl ?_ ?_ <;> intro h133
    · try simp only [nrm] at h133
      obtain ⟨k, hx1, hx2⟩ := hl.at (i := i) (by omega)
      rw [hx2, List.map_cons, chkL] at hp2
      refine kgs ?_
      refine T_block ?_
      refine tx ?_
      refine s1 (y_indexAddr rfl rfl rfl Tryz.underlying34 sz36 (fun hg => hl.isSome (by omega)) (fun _ => by omega)) ?_
      refine s1 (y_loadT rfl rfl hl (fun _ => rfl) (fun _ => hx1) Tryz.underlying36 rfl sz36) ?_
      refine S_alloc 7 7 rfl rfl rfl rfl z36 ?_
      intro b7
      refine S_store 7 rfl rfl rfl rfl rfl rfl sz36 rfl rfl ?_
      refine sgx ?_
      refine s1 (yA 7 rfl Tryz.underlying36 sz36) ?_
      refine s1 (y_call rfl rfl rfl cf94 (fun _ w1 hM => ih k (mem_at hx1) w1 ((hk k (mem_at hx1)).lift hM.below))) ?_
      refine sr 1 ?_
      refine sgx ?_
      refine sr 2 ?_
      refine sgo ?_
      refine T_cond rfl ?_ ?_ <;> intro h139
      · skip
        have hn1 : chX k ≠ 0 := by simpa using h139
        rw [if_pos hn1] at hp2
        have e1 : chX x = chX k := by rw [hch, ← hp2]
        refine tx ?_
        refine sr 2 ?_
        refine sgo ?_
        refine tr1 hRb fun w hM => ?_
        first | exact ⟨by rw [e1], hM.below⟩ | exact ⟨by rw [hch, ← hp2, hl.end (by omega)]; rfl, hM.below⟩
      have hn1 : chX k = 0 := by simpa using h139
      rw [if_neg (by rw [show chkP (chdNo txtNo nameOk) k.says = chX k from rfl, hn1]; simp)] at hp2
      refine kgr ?_
      refine s1 (y_bin rfl rfl rfl (fun hg => b_add (by omega))) ?_
      refine sr 1 ?_
      refine S_nil (nK1 (kf := [(2, 2), (7, 8), (132, 141)]) (kl := [(2, 2), (7, 8), (132, 141)]) (i + 1) ?_ ?_ ?_ ?_)
      · omega
      · exact ⟨by omega, hp2⟩
      · exact ⟨rfl, trivial⟩
      · exact trivial
    try simp only [nrm] at h133
    refine egx ?_
    refine sr 1 ?_
    refine sgo ?_
    refine tr1 hRb fun w hM => ?_
    first | exact ⟨by rw [e1], hM.below⟩ | exact ⟨by rw [hch, ← hp2, hl.end (by omega)]; rfl, hM.below⟩
  have hw : wrdB x.op = false := h122
  rw [if_neg (by rw [hw]; simp)] at hla
  have hch := chX_kids hla
  refine kgs ?_
  refine tx ?_
  refine s1 (yF fa36_1) ?_
  refine s1 (yL 1 Tryz.underlying34) ?_
  refine s1 (y_len_slice rfl rfl Tryz.underlying34) ?_
  refine sr 1 ?_
  refine sgo ?_
  refine T_block ?_
  refine lK1 (kf := [(2, 2), (7, 8), (132, 141)]) (kl := [(2, 2), (7, 8), (132, 141)]) (fun (i : Nat) => [(132, true, .int .i64 (i : Int))]) (fun (i : Nat) => []) (fun (i : Nat) => i ≤ x.q ∧ chkL (chdNo txtNo nameOk) ((x.kids.drop i).map SC.says) = chkL (chdNo txtNo nameOk) (x.kids.map SC.says)) (fun (i : Nat) => x.q - i) 0 ?_ ?_ ?_ ?_
  · exact ⟨by omega, rfl⟩
  · exact ⟨rfl, trivial⟩
  · exact trivial
  rintro i ⟨hp1, hp2⟩
  refine tx ?_
  refine sr 1 ?_
  refine sgs ?_
  refine T_cond rfl ?_ ?_ <;> intro h133
  · try simp only [nrm] at h133
    obtain ⟨k, hx1, hx2⟩ := hl.at (i := i) (by omega)
    rw [hx2, List.map_cons, chkL] at hp2
    refine kgs ?_
    refine T_block ?_
    refine tx ?_
    refine s1 (y_indexAddr rfl rfl rfl Tryz.underlying34 sz36 (fun hg => hl.isSome (by omega)) (fun _ => by omega)) ?_
    refine s1 (y_loadT rfl rfl hl (fun _ => rfl) (fun _ => hx1) Tryz.underlying36 rfl sz36) ?_
    refine S_alloc 7 7 rfl rfl rfl rfl z36 ?_
    intro b7
    refine S_store 7 rfl rfl rfl rfl rfl rfl sz36 rfl rfl ?_
    refine sgx ?_
    refine s1 (yA 7 rfl Tryz.underlying36 sz36) ?_
    refine s1 (y_call rfl rfl rfl cf94 (fun _ w1 hM => ih k (mem_at hx1) w1 ((hk k (mem_at hx1)).lift hM.below))) ?_
    refine sr 1 ?_
    refine sgx ?_
    refine sr 2 ?_
    refine sgo ?_
    refine T_cond rfl ?_ ?_ <;> intro h139
    · skip
      have hn1 : chX k ≠ 0 := by simpa using h139
      rw [if_pos hn1] at hp2
      have e1 : chX x = chX k := by rw [hch, ← hp2]
      refine tx ?_
      refine sr 2 ?_
      refine sgo ?_
      refine tr1 hRb fun w hM => ?_
      first | exact ⟨by rw [e1], hM.below⟩ | exact ⟨by rw [hch, ← hp2, hl.end (by omega)]; rfl, hM.below⟩
    have hn1 : chX k = 0 := by simpa using h139
    rw [if_neg (by rw [show chkP (chdNo txtNo nameOk) k.says = chX k from rfl, hn1]; simp)] at hp2
    refine kgr ?_
    refine s1 (y_bin rfl rfl rfl (fun hg => b_add (by omega))) ?_
    refine sr 1 ?_
    refine S_nil (nK1 (kf := [(2, 2), (7, 8), (132, 141)]) (kl := [(2, 2), (7, 8), (132, 141)]) (i + 1) ?_ ?_ ?_ ?_)
    · omega
    · exact ⟨by omega, hp2⟩
    · exact ⟨rfl, trivial⟩
    · exact trivial
  try simp only [nrm] at h133
  refine egx ?_
  refine sr 1 ?_
  refine sgo ?_
  refine tr1 hRb fun w hM => ?_
  first | exact ⟨by rw [e1], hM.below⟩ | exact ⟨by rw [hch, ← hp2, hl.end (by omega)]; rfl, hM.below⟩
theorem checkOne_any (x : SC) : OneAt x := SC.ind (Q := OneAt) one_step x
/-- the fault of a condition -/
def condNo (x : SC) : Int := if deepP 20 x.says = true then 13 else if 100 < sizeP x.says 100 then 4 else chX x
theorem CheckCond_any (x : SC) (w : World) (hok : x.Ok w) :
    Calls Tryz.prog 54 #[x.val] w fun e w' => e = .returned (.int .i64 (condNo x)) ∧ Below w.heap.size w w' := by
  refine enter_args (args := [.agg #[.int .i64 x.op, .slice x.ad x.q x.c, .int .i64 x.lo, .int .i64 x.hi, str x.nm, str x.tx]]) (F := _) Tryz.func54 rfl Tryz.ntmps54 rfl rfl ?_
  intro Rb hRb hRn
  refine tx ?_
  refine S_box 1 1 rfl rfl rfl rfl rfl ?_
  intro b1
  refine sr 1 ?_
  refine sgs ?_
  refine tx ?_
  refine s1 (yA 1 rfl Tryz.underlying36 sz36) ?_
  refine s1 (y_call rfl rfl rfl cf92 (fun _ w1 hM => tooDeep_any 20 (by decide) x w1 (hok.lift hM.below))) ?_
  refine sgo ?_
  refine T_cond rfl ?_ ?_ <;> intro h4
  · skip
    refine tx ?_
    refine sr 1 ?_
    refine sgo ?_
    refine tr1 hRb fun w hM => ?_
    exact ⟨by rw [condNo, if_pos h4], hM.below⟩
  refine kgs ?_
  refine tx ?_
  refine s1 (yA 1 rfl Tryz.underlying36 sz36) ?_
  refine s1 (y_call rfl rfl rfl cf93 (fun _ w1 hM => size_any x 100 w1 (by decide) (by decide) (hok.lift hM.below))) ?_
  refine sr 1 ?_
  refine sgo ?_
  refine T_cond rfl ?_ ?_ <;> intro h7
  · skip
    refine tx ?_
    refine sr 1 ?_
    refine sgo ?_
    refine tr1 hRb fun w hM => ?_
    exact ⟨by rw [condNo, if_neg (by rw [h4]; simp), if_pos (by simpa using h7)], hM.below⟩
  refine kgx ?_
  refine s1 (yA 1 rfl Tryz.underlying36 sz36) ?_
  refine s1 (y_call rfl rfl rfl cf94 (fun _ w1 hM => checkOne_any x w1 (hok.lift hM.below))) ?_
  refine sr 1 ?_
  refine sgo ?_
  refine tr1 hRb fun w hM => ?_
  exact ⟨by rw [condNo, if_neg (by rw [h4]; simp), if_neg (by simpa using h7)], hM.below⟩
end Go.Proofs.YtekbcbjimajnfaaGreatDoor
end
section
namespace Go.Proofs.YtekbcbjimajnfaaGreatDoor
set_option linter.unusedSimpArgs false
set_option linter.unusedVariables false
set_option maxRecDepth 20000
open Go.RowKit Go.Eng
def lowN (n : Nat) : Nat := if 65 ≤ n ∧ n ≤ 90 then n + 32 else n
def eqL (a b : UInt8) : Bool := decide (((lowN a.toNat : Nat) : Int) = ((lowN b.toNat : Nat) : Int))
theorem lower_any (n : Nat) (hn : n < 256) (w : World) :
    Calls Tryz.prog 112 #[.int .u8 (n : Int)] w fun e w' => e = .returned (.int .u8 ((lowN n : Nat) : Int)) ∧ Below w.heap.size w w' := by
  refine enter_args (args := [.int .u8 (n : Int)]) (F := _) Tryz.func112 rfl Tryz.ntmps112 rfl rfl ?_
  intro Rb hRb hRn
  refine tx ?_
  refine sr 1 ?_
  refine sgs ?_
  refine tx ?_
  refine sr 3 ?_
  refine sg rfl (y_move rfl rfl) ?_
  refine sg rfl (y_bin rfl rfl rfl (fun _ => b_leq)) ?_
  refine s1 (y_and rfl rfl rfl) ?_
  refine sgo ?_
  refine T_cond rfl ?_ ?_ <;> intro h8
  · skip
    have h8 : 65 ≤ n ∧ n ≤ 90 := by simp only [Bool.and_eq_true, decide_eq_true_eq] at h8; omega
    refine tx ?_
    refine sr 1 ?_
    refine s1 (y_bin rfl rfl rfl (fun hg => b_addw)) ?_
    refine s1 (y_bin rfl rfl rfl (fun hg => b_subw)) ?_
    refine sr 1 ?_
    refine sgo ?_
    refine tr1 hRb fun w hM => ?_
    exact ⟨by rw [lowN, if_pos h8]; congr 2; simp [IntKind.wrap, IntKind.signed, IntKind.bits]; omega, hM.below⟩
  have h8 : ¬ (65 ≤ n ∧ n ≤ 90) := by intro h; simp at h8; omega
  refine kgx ?_
  refine sr 2 ?_
  refine sgo ?_
  refine tr1 hRb fun w hM => ?_
  exact ⟨by rw [lowN, if_neg h8], hM.below⟩
def stI (st : Option Nat) : Int := st.elim (-1) fun j => (j : Int)
theorem Tried.mk_le {e : UInt8 → UInt8 → Bool} {p s : List UInt8} {i k mk : Nat} {st : Option Nat} (h : Tried e p s i k st mk) : mk ≤ k := by
  cases st with
  | none => rw [h.no rfl]; exact Nat.zero_le _
  | some j => have := (h.hst j rfl).2.1; omega
theorem lit_star {p : List UInt8} {i : Nat} (h : (decide (((i : Nat) : Int) < ((p.length : Nat) : Int)) && decide ((((p.getD i 0).toNat : Nat) : Int) = 42)) = true) : i < p.length ∧ p.getD i 0 = 42 := by
  simp only [Bool.and_eq_true, decide_eq_true_eq] at h
  exact ⟨by omega, UInt8.toNat_inj.1 (by show (p.getD i 0).toNat = 42; omega)⟩
theorem lit_no {p : List UInt8} {i : Nat} (h : (decide (((i : Nat) : Int) < ((p.length : Nat) : Int)) && decide ((((p.getD i 0).toNat : Nat) : Int) = 42)) = false) : i < p.length → p.getD i 0 ≠ 42 := by
  intro hi e
  rw [decide_eq_true (by omega), Bool.true_and, decide_eq_false_iff_not] at h
  exact h (by rw [e]; rfl)
theorem mu_star {a b c d e C : Nat} (h : a ≤ b) (h2 : d + 1 ≤ e) : (c - b) * C + (e - (d + 1)) < (c - a) * C + (e - d) := by
  have : (c - b) * C ≤ (c - a) * C := Nat.mul_le_mul_right C (by omega)
  omega
theorem mu_back {m c C x y : Nat} (h : m + 1 ≤ c) (hx : x < C) : (c - (m + 1)) * C + x < (c - m) * C + y := by
  have : (c - m) * C = (c - (m + 1)) * C + C := by rw [show c - m = (c - (m + 1)) + 1 by omega, Nat.succ_mul]
  omega
theorem dropWhile_nilF {p : UInt8 → Bool} : ∀ {l : List UInt8}, l.dropWhile p = [] → ∀ c ∈ l, p c = true
  | [], _ => fun c h => by cases h
  | a :: r, h => fun c hc => by
    rw [List.dropWhile_cons] at h
    split at h
    · rcases List.mem_cons.1 hc with rfl | hc
      · assumption
      · exact dropWhile_nilF h c hc
    · cases h
theorem dropWhile_headF {p : UInt8 → Bool} : ∀ {l : List UInt8} {y : UInt8} {t : List UInt8}, l.dropWhile p = y :: t → p y = false
  | [], y, t, h => by simp at h
  | a :: r, y, t, h => by
    rw [List.dropWhile_cons] at h
    split at h
    · exact dropWhile_headF h
    · rename_i hp
      obtain ⟨rfl, _⟩ := List.cons.inj h
      simpa using hp
theorem trimS_nilF {s cs : List UInt8} (h : Lib.trimS s cs = []) : ∀ c ∈ s, cs.contains c = true := by
  have h1 := dropWhile_nilF (l := Lib.trimRightS s cs) h
  have h2 : s.reverse.dropWhile (cs.contains ·) = [] := by
    cases hq : s.reverse.dropWhile (cs.contains ·) with
    | nil => rfl
    | cons y t =>
      have h3 := dropWhile_headF hq
      have h4 := h1 y (by unfold Lib.trimRightS; rw [hq]; simp)
      rw [h3] at h4; cases h4
  intro c hc
  exact dropWhile_nilF h2 c (List.mem_reverse.2 hc)
theorem dropWhile_allF {p : UInt8 → Bool} : ∀ {l : List UInt8}, (∀ c ∈ l, p c = true) → l.dropWhile p = []
  | [], _ => rfl
  | a :: r, h => by rw [List.dropWhile_cons, if_pos (h a (List.mem_cons_self ..)), dropWhile_allF fun c hc => h c (List.mem_cons_of_mem _ hc)]
theorem trimS_allF {s cs : List UInt8} (h : ∀ c ∈ s, cs.contains c = true) : Lib.trimS s cs = [] := by
  have h2 : s.reverse.dropWhile (cs.contains ·) = [] := dropWhile_allF fun c hc => h c (List.mem_reverse.1 hc)
  have h3 : Lib.trimRightS s cs = [] := by unfold Lib.trimRightS; rw [h2]; rfl
  unfold Lib.trimS; rw [h3]; rfl
theorem all_trim (s : List UInt8) : decide (Lib.trimS s [42] = []) = s.all fun c => decide (c = 42) := by
  rw [Bool.eq_iff_iff, decide_eq_true_eq, List.all_eq_true]
  constructor
  · intro h c hc
    have := trimS_nilF h c hc
    simpa using this
  · intro h
    exact trimS_allF fun c hc => by have := h c hc; simpa using this
theorem Fits_any (p s : List UInt8) (w : World) (hp : p.length ≤ 1000000000) (hs : s.length ≤ 4611686018427387904) :
    Calls Tryz.prog 77 #[str p, str s] w fun e w' => e = .returned (.bool (gm eqL p s)) ∧ Below w.heap.size w w' := by
  refine enter_args (args := [str p, str s]) (F := _) Tryz.func77 rfl Tryz.ntmps77 rfl rfl ?_
  intro Rb hRb hRn
  refine tx ?_
  refine sr 1 ?_
  refine sgx ?_
  refine sr 3 ?_
  refine sgs ?_
  refine tx ?_
  refine sr 1 ?_
  refine sgo ?_
  refine T_block ?_
  refine lK4 (kf := [(4, 55)]) (kl := [(4, 55)]) (fun (i : Nat) (k : Nat) (st : Option Nat) (mk : Nat) => [(5, true, .int .i64 (i : Int)), (6, true, .int .i64 (stI st)), (7, true, .int .i64 (mk : Int)), (8, true, .int .i64 (k : Int))]) (fun (i : Nat) (k : Nat) (st : Option Nat) (mk : Nat) => []) (fun (i : Nat) (k : Nat) (st : Option Nat) (mk : Nat) => Tried eqL p s i k st mk) (fun (i : Nat) (k : Nat) (st : Option Nat) (mk : Nat) => (s.length - mk) * (p.length + s.length + 2) + ((p.length + s.length + 1) - (i + k))) 0 0 none 0 ?_ ?_ ?_ ?_
  · exact Tried.start p s
  · exact ⟨rfl, rfl, rfl, rfl, trivial⟩
  · exact trivial
  rintro i k st mk ht
  refine T_seq ?_
  refine tx ?_
  refine sr 2 ?_
  refine s1 (y_len_str rfl rfl Tryz.underlying9) ?_
  refine sr 1 ?_
  refine sgo ?_
  refine T_cond rfl ?_ ?_ <;> intro h12
  · try simp only [nrm] at h12
    have hk : k < s.length := by omega
    have hmk := ht.mk_le
    have hil := ht.hi
    refine kgo ?_
    refine T_block ?_
    refine T_block ?_
    refine tx ?_
    refine sr 2 ?_
    refine s1 (y_len_str rfl rfl Tryz.underlying9) ?_
    refine sr 2 ?_
    refine sg rfl (y_move rfl rfl) ?_
    refine sg rfl (y_move rfl rfl) ?_
    refine sg rfl (y_index_str rfl rfl rfl Tryz.underlying9 (fun hg => by simp only [Bool.true_and, Bool.and_eq_true, beq_iff_eq, decide_eq_true_eq, decide_eq_false_iff_not, Int.not_lt, Int.not_le] at hg; omega)) ?_
    refine sg rfl (y_bin rfl rfl rfl (fun _ => b_eql)) ?_
    refine s1 (y_and rfl rfl rfl) ?_
    refine sr 1 ?_
    refine sgo ?_
    refine T_cond rfl ?_ ?_ <;> intro h13
    · skip
      have hi : i < p.length ∧ p.getD i 0 = 42 := lit_star h13
      refine tx ?_
      refine sr 4 ?_
      refine sgr ?_
      refine sr 1 ?_
      refine s1 (y_bin rfl rfl rfl (fun hg => b_add (by omega))) ?_
      refine sr 1 ?_
      refine S_nil (nK4 (kf := [(4, 55)]) (kl := [(4, 55)]) (i + 1) k (some i) k ?_ ?_ ?_ ?_)
      · simpa only [show i + 1 + k = i + k + 1 by omega] using mu_star (C := p.length + s.length + 2) (c := s.length) (d := i + k) (e := p.length + s.length + 1) hmk (by omega)
      · exact ht.star hi.1 hi.2
      · exact ⟨rfl, rfl, rfl, rfl, trivial⟩
      · exact trivial
    have hns : i < p.length → p.getD i 0 ≠ 42 := lit_no h13
    refine T_seq ?_
    refine T_draws (by kernel_rfl) (by kernel_rfl) ?_
    refine d1 (y_move rfl rfl) ?_
    refine d1 (y_move rfl rfl) ?_
    refine d1 (y_len_str rfl rfl Tryz.underlying9) ?_
    refine d1 (y_bin rfl rfl rfl (fun _ => b_lss)) ?_
    refine d1 (y_move rfl rfl) ?_
    refine dg rfl (y_move rfl rfl) ?_
    refine dg rfl (y_move rfl rfl) ?_
    refine dg rfl (y_index_str rfl rfl rfl Tryz.underlying9 (fun hg => by simp only [Bool.true_and, Bool.and_eq_true, beq_iff_eq, decide_eq_true_eq, decide_eq_false_iff_not, Int.not_lt, Int.not_le] at hg; omega)) ?_
    refine dg rfl (y_call rfl rfl rfl cf112 (fun _ w _ => lower_any _ (UInt8.toNat_lt _) w)) ?_
    refine dg rfl (y_move rfl rfl) ?_
    refine dg rfl (y_move rfl rfl) ?_
    refine dg rfl (y_index_str rfl rfl rfl Tryz.underlying9 (fun hg => by simp only [Bool.true_and, Bool.and_eq_true, beq_iff_eq, decide_eq_true_eq, decide_eq_false_iff_not, Int.not_lt, Int.not_le] at hg; omega)) ?_
    refine dg rfl (y_call rfl rfl rfl cf112 (fun _ w _ => lower_any _ (UInt8.toNat_lt _) w)) ?_
    refine dg rfl (y_bin rfl rfl rfl (fun _ => b_eql)) ?_
    refine d1 (y_and rfl rfl rfl) ?_
    refine d1 (y_assign rfl rfl) ?_
    refine dgo ?_
    refine T_cond rfl ?_ ?_ <;> intro h28
    · skip
      have hi : i < p.length ∧ eqL (p.getD i 0) (s.getD k 0) = true := by simp only [Bool.and_eq_true, decide_eq_true_eq] at h28; exact ⟨by omega, decide_eq_true h28.2⟩
      refine tx ?_
      refine sr 1 ?_
      refine s1 (y_bin rfl rfl rfl (fun hg => b_add (by omega))) ?_
      refine sr 1 ?_
      refine sgr ?_
      refine sr 1 ?_
      refine s1 (y_bin rfl rfl rfl (fun hg => b_add (by omega))) ?_
      refine sr 1 ?_
      refine S_nil (nK4 (kf := [(4, 55)]) (kl := [(4, 55)]) (i + 1) (k + 1) st mk ?_ ?_ ?_ ?_)
      · omega
      · exact ht.lit hi.1 hk (hns hi.1) hi.2
      · exact ⟨rfl, rfl, rfl, rfl, trivial⟩
      · exact trivial
    have hno : i < p.length → p.getD i 0 ≠ 42 ∧ eqL (p.getD i 0) (s.getD k 0) = false := fun h => ⟨hns h, by rw [decide_eq_true (show ((i : Nat) : Int) < p.length by omega), Bool.true_and] at h28; exact h28⟩
    refine tx ?_
    refine sr 3 ?_
    refine sgo ?_
    refine T_cond rfl ?_ ?_ <;> intro h48
    · skip
      obtain ⟨j, rfl⟩ : ∃ j, st = some j := by cases st with
        | none => simp [stI] at h48 <;> omega
        | some j => exact ⟨j, rfl⟩
      have hji := (ht.hst j rfl).1
      refine tx ?_
      refine sr 1 ?_
      refine s1 (y_bin rfl rfl rfl (fun hg => b_add (by omega))) ?_
      refine sr 1 ?_
      refine sgr ?_
      refine s1 (y_as (v' := .int .i64 ((j : Nat) : Int)) (by exact rfl) (y_move rfl rfl)) ?_
      refine s1 (y_bin rfl rfl rfl (fun hg => b_add (by omega))) ?_
      refine sr 3 ?_
      refine S_nil (nK4 (kf := [(4, 55)]) (kl := [(4, 55)]) (j + 1) (mk + 1) (some j) (mk + 1) ?_ ?_ ?_ ?_)
      · exact mu_back (by omega) (by omega)
      · exact ht.back hk hno
      · exact ⟨rfl, rfl, rfl, rfl, trivial⟩
      · exact trivial
    have hst : st = none := by cases st with
      | none => rfl
      | some j => simp [stI] at h48 <;> omega
    subst hst
    refine tx ?_
    refine sr 1 ?_
    refine sgo ?_
    refine tr1 hRb fun w hM => ?_
    exact ⟨by rw [ht.fail hk hno], hM.below⟩
  try simp only [nrm] at h12
  have hk : s.length ≤ k := by omega
  have hil := ht.hi
  refine egx ?_
  refine sr 2 ?_
  refine s1 (y_strFrom rfl rfl rfl Tryz.underlying9 (fun _ => by omega)) ?_
  refine s1 (y_call rfl rfl rfl cf84 (fun _ w _ => Any.strings_Trim_laid Tryz.lays160 (by kernel_rfl) ⟨(p.drop i).toArray⟩ ⟨([42] : List UInt8).toArray⟩ w (by rw [Lib.size_eq]; simp; omega) (by decide) (ascii_of_all (by decide)))) ?_
  refine s1 (y_bin rfl rfl rfl (fun _ => b_eqls)) ?_
  refine sr 1 ?_
  refine sgo ?_
  refine tr1 hRb fun w hM => ?_
  exact ⟨by rw [ht.done hk, ← all_trim], hM.below⟩
end Go.Proofs.YtekbcbjimajnfaaGreatDoor
end
section
namespace Go.Proofs.YtekbcbjimajnfaaGreatDoor
set_option linter.unusedSimpArgs false
set_option linter.unusedVariables false
set_option maxRecDepth 20000
open Go.RowKit Go.Eng
end Go.Proofs.YtekbcbjimajnfaaGreatDoor
end
section
namespace Go.Proofs.YtekbcbjimajnfaaGreatDoor
set_option linter.unusedSimpArgs false
set_option linter.unusedVariables false
set_option maxRecDepth 20000
open Go.RowKit Go.Eng
/-- what a fault says -/
def Flt.cont (f : Flt) : List UInt8 × List UInt8 × List Frm := (f.k, f.t, f.fr.l)
structure CopyR where
  A : Option Addr
  c : Nat
  gs : List Flt
  rs : List Row
  B : Option Addr
  b : Nat
  D : Option Addr
  d : Nat
def CopyR.evt (z : CopyR) (e : Evt) : Evt := { e with fa := ⟨z.A, e.fa.q, z.c, z.gs⟩, ta := ⟨z.B, e.ta.q, z.b, e.ta.l⟩, cr := ⟨z.D, e.cr.q, z.d, e.cr.l⟩ }
def CopyR.L (z : CopyR) (e : Evt) : HL := [(8, .own 100 3 (.slice z.A e.fa.q z.c) e.fa.q (z.gs.flatMap Flt.enc)), (900, .many z.rs), (35, .own 92 2 (.slice z.B e.ta.q z.b) e.ta.q (e.ta.l.flatMap STag.enc)), (39, .own 95 3 (.slice z.D e.cr.q z.d) e.cr.q (e.cr.l.flatMap SCrumb.enc))]
theorem set_next {gs : List Flt} {l : List Flt} {x y : Flt} {i : Nat} (hg : gs.length = i) (h : l.drop i = x :: l.drop (i + 1)) : (gs ++ l.drop i).set i y = (gs ++ [y]) ++ l.drop (i + 1) := by
  subst hg
  rw [h]; simp
theorem at_next {gs : List Flt} {l : List Flt} {x : Flt} {i : Nat} (hg : gs.length = i) (h : l.drop i = x :: l.drop (i + 1)) : (gs ++ l.drop i)[i]? = some x := by
  subst hg
  rw [h]; simp
theorem take_at {α : Type} {l : List α} {i : Nat} {x : α} (h : l[i]? = some x) : l.take (i + 1) = l.take i ++ [x] := by
  rw [List.take_add_one, h]; rfl
end Go.Proofs.YtekbcbjimajnfaaGreatDoor
end
section
namespace Go.Proofs.YtekbcbjimajnfaaGreatDoor
set_option linter.unusedSimpArgs false
set_option linter.unusedVariables false
set_option maxRecDepth 20000
open Go.RowKit Go.Eng
/-! ### lists that are mapped from their head on -/
def mpL {α : Type} (f : α → α) (l : List α) (i : Nat) : List α := (l.take i).map f ++ l.drop i
section
variable {α : Type} {f : α → α} {l : List α} {i : Nat} {x : α}
theorem mpL_end (h : l.length ≤ i) : mpL f l i = l.map f := by rw [mpL, List.take_of_length_le h, List.drop_eq_nil_of_le h, List.append_nil]
theorem mpL_map {β : Type} {h : α → β} (hf : ∀ x, h (f x) = h x) : (mpL f l i).map h = l.map h := by
  rw [mpL, List.map_append, List.map_map]
  have : (l.take i).map (h ∘ f) = (l.take i).map h := List.map_congr_left fun x _ => hf x
  rw [this, ← List.map_append, List.take_append_drop]
/-! ### sums -/
variable {k : α → Nat}
end
/-! ### the rule's work -/
def mk (r : SRl) (s : List UInt8) : List UInt8 := putM s 0 (fndR r s)
def clM (r : SRl) (x : Frm) : Frm := { x with fi := mk r x.fi }
def clF (r : SRl) (f : Flt) : Flt := ⟨f.k, if r.wh = 1 then mk r f.t else f.t, ⟨f.fr.A, f.fr.q, f.fr.c, if r.wh = 5 then f.fr.l.map (clM r) else f.fr.l⟩⟩
/-! ### what is bounded -/
structure LenE (e : Evt) : Prop where
  us : e.us.length ≤ 5000
  ta : ∀ t ∈ e.ta.l, t.n.length ≤ 4611686018427387904 ∧ t.v.length ≤ 5000
  cr : ∀ c ∈ e.cr.l, c.k.length ≤ 4611686018427387904 ∧ c.t.length ≤ 5000
  fa : ∀ f ∈ e.fa.l, f.t.length ≤ 5000 ∧ f.fr.q ≤ 1000 ∧ f.fr.l.length = f.fr.q ∧ ∀ x ∈ f.fr.l, x.fi.length ≤ 5000
  fq : e.fa.q ≤ 1000 ∧ e.fa.l.length = e.fa.q
  tq : e.ta.q ≤ 1000 ∧ e.ta.l.length = e.ta.q
  cq : e.cr.q ≤ 1000 ∧ e.cr.l.length = e.cr.q
/-! ### frames' rows -/
abbrev frRow (f : Flt) : Row := ⟨105, 6, .slice f.fr.A f.fr.q f.fr.c, f.fr.q, f.fr.l.flatMap Frm.enc⟩
def blkF (f : Flt) : Option Nat := (Value.slice f.fr.A f.fr.q f.fr.c).ownBlock
def DisF (l : List Flt) : Prop := (l.map blkF).Pairwise fun a b => ∀ g, a = some g → b ≠ some g
theorem clF_blk (r : SRl) (f : Flt) : blkF (clF r f) = blkF f := rfl
theorem DisF.mp {r : SRl} {l : List Flt} {i : Nat} (h : DisF l) : DisF (mpL (clF r) l i) := by
  unfold DisF
  rw [mpL_map (clF_blk r)]; exact h
theorem DisF.map {r : SRl} {l : List Flt} (h : DisF l) : DisF (l.map (clF r)) := by
  have := DisF.mp (r := r) (i := l.length) h
  rwa [mpL_end (Nat.le_refl _)] at this
end Go.Proofs.YtekbcbjimajnfaaGreatDoor
end
section
namespace Go.Proofs.YtekbcbjimajnfaaGreatDoor
set_option linter.unusedSimpArgs false
set_option linter.unusedVariables false
set_option maxRecDepth 20000
open Go.RowKit Go.Eng
end Go.Proofs.YtekbcbjimajnfaaGreatDoor
end
section
namespace Go.Proofs.YtekbcbjimajnfaaGreatDoor
set_option linter.unusedSimpArgs false
set_option linter.unusedVariables false
set_option maxRecDepth 20000
open Go.RowKit Go.Eng
theorem dis_snoc {l : List Flt} {x : Flt} (h : DisF l) (hx : ∀ f ∈ l, ∀ b, blkF f = some b → blkF x ≠ some b) : DisF (l ++ [x]) := by
  unfold DisF
  rw [List.map_append, List.pairwise_append]
  refine ⟨h, List.pairwise_singleton _ _, fun a ha b hb g hg => ?_⟩
  obtain ⟨f, hf, rfl⟩ := List.mem_map.1 ha
  rw [List.map_singleton, List.mem_singleton] at hb
  subst hb
  exact hx f hf g hg
set_option maxHeartbeats 1600000 in
theorem CopyD_any {w0 : World} {K : HL} (hK : FromK K) (e : Evt) (w : World) (he : e.Ok w0) (hn : e.fa.q ≤ 1000 ∧ e.ta.q ≤ 1000 ∧ e.cr.q ≤ 1000 ∧ ∀ f ∈ e.fa.l, f.fr.q ≤ 1000) (hM0 : Mem w0 ([] ++ K) w) :
    Calls Tryz.prog 45 #[e.val] w fun en w' => ∃ z : CopyR, en = .returned (z.evt e).val ∧ (z.gs.map Flt.cont = e.fa.l.map Flt.cont ∧ (∀ f ∈ z.gs, f.fr.q = f.fr.l.length) ∧ z.rs = z.gs.map frRow ∧ DisF z.gs) ∧ Mem w0 (z.L e ++ K) w' := by
  have hfa := he.fa
  have hft := hfa.ok.t
  have hfl := hft.len
  obtain ⟨hn1, hn2, hn3, hn4⟩ := hn
  refine enterM_args (args := [.agg #[str e.id, .int .i64 e.at_, .int .i64 e.lv, .slice e.fa.A e.fa.q e.fa.c, .slice e.ta.A e.ta.q e.ta.c, .slice e.cr.A e.cr.q e.cr.c, str e.rel, str e.us, .int .i64 e.wt]]) (F := _) hM0 Tryz.func45 rfl Tryz.ntmps45 rfl rfl ?_
  intro Rb hRb hRn
  refine tx ?_
  refine S_box 1 1 rfl rfl rfl rfl rfl ?_
  intro b1
  refine S_alloc 2 2 rfl rfl rfl rfl z31 ?_
  intro b2
  refine sgx ?_
  refine s1 (yF fa31_3) ?_
  refine s1 (yL 1 Tryz.underlying27) ?_
  refine S_callOwn 8 8 rfl rfl rfl rfl rfl rfl rfl cf46 (fun A c => .slice A (e.fa.q) c) 100 3 (e.fa.q) (e.fa.l.flatMap Flt.enc) (fun w hM => CloneFlt_any e.fa w (hfa.ok.below hM.below) (by omega)) ?_
  intro A8 c8
  refine s1 (yF fa31_3) ?_
  refine S_store 1 rfl rfl rfl rfl rfl rfl sz27 rfl rfl ?_
  refine sgs ?_
  refine tx ?_
  refine s1 (yF fa31_3) ?_
  refine s1 (yL 1 Tryz.underlying27) ?_
  refine s1 (y_len_slice rfl rfl Tryz.underlying27) ?_
  refine S_many0 900 ?_
  refine sr 1 ?_
  refine sgo ?_
  refine T_block ?_
  refine lK3 (kf := [(3, 5), (13, 32)]) (kl := [(3, 5), (8, 8), (13, 32), (900, 900)]) (fun (i : Nat) (gs : List Flt) (rs : List Row) => [(13, true, .int .i64 (i : Int))]) (fun (i : Nat) (gs : List Flt) (rs : List Row) => [(8, .own 100 3 (.slice A8 e.fa.q c8) e.fa.q ((gs ++ e.fa.l.drop i).flatMap Flt.enc)), (900, .many rs)]) (fun (i : Nat) (gs : List Flt) (rs : List Row) => i ≤ e.fa.q ∧ gs.length = i ∧ gs.map Flt.cont = (e.fa.l.take i).map Flt.cont ∧ (∀ f ∈ gs, f.fr.q = f.fr.l.length) ∧ rs = gs.map frRow ∧ DisF gs) (fun (i : Nat) (gs : List Flt) (rs : List Row) => e.fa.q - i) 0 [] [] ?_ ?_ ?_ ?_
  · exact ⟨by omega, rfl, rfl, fun _ h => by simp at h, rfl, List.Pairwise.nil⟩
  · exact ⟨rfl, trivial⟩
  · exact ⟨rfl, rfl, trivial⟩
  rintro i gs rs ⟨hp1, hp2, hp3, hp4, hp5, hp6⟩
  refine tx ?_
  refine sr 1 ?_
  refine sgs ?_
  refine T_cond rfl ?_ ?_ <;> intro h14
  · try simp only [nrm] at h14
    obtain ⟨x, hx1, hx2⟩ := hft.at (i := i) (by omega)
    have hxf := (hfa.n x (mem_at hx1)).fr
    have hxn := hn4 x (mem_at hx1)
    refine kgs ?_
    refine T_block ?_
    refine tx ?_
    refine sr 1 ?_
    refine s1 (y_indexOwn 8 rfl rfl rfl rfl Tryz.underlying27 sz100 (fun _ => by omega)) ?_
    refine s1 (y_loadO 8 rfl rfl rfl (by simp; omega) (fun _ => rfl) (fun _ => at_next hp2 hx2) Tryz.underlying100 rfl sz100) ?_
    refine S_alloc 4 4 rfl rfl rfl rfl z100 ?_
    intro b4
    refine sr 1 ?_
    refine S_store 4 rfl rfl rfl rfl rfl rfl sz100 rfl rfl ?_
    refine sgx ?_
    refine s1 (yF fa100_2) ?_
    refine s1 (yL 4 Tryz.underlying98) ?_
    refine s1 (y_len_slice rfl rfl Tryz.underlying98) ?_
    obtain ⟨i21, hi21, hz21, hs21, hy21⟩ := info_parts inf105
    refine S_makeSlice 21 21 rfl rfl rfl rfl rfl rfl Tryz.underlying98 hi21 hz21 hs21 (by rw [hy21]; omega) (by simp only [maxLen]; omega) rfl ?_
    intro b21
    refine sr 1 ?_
    refine sgx ?_
    refine sr 1 ?_
    refine s1 (yF fa100_2) ?_
    refine s1 (yL 4 Tryz.underlying98) ?_
    refine S_copy 25 21 rfl rfl rfl rfl rfl rfl rfl Tryz.underlying98 sz105 (fun w hM => (hxf.ok.below hM.below).t.rd) (fun v hv => by obtain ⟨a, _, ha⟩ := List.mem_flatMap.1 hv; simp [Frm.enc] at ha; rcases ha with rfl | rfl | rfl | rfl | rfl | rfl <;> rfl) ?_
    refine sgr ?_
    refine s1 (yF fa31_3) ?_
    refine s1 (yL 1 Tryz.underlying27) ?_
    refine sr 2 ?_
    refine s1 (y_indexOwn 8 rfl rfl rfl rfl Tryz.underlying27 sz100 (fun _ => by omega)) ?_
    refine s1 (y_fieldOwn 8 rfl rfl rfl (fun _ => by omega) fa100_2) ?_
    refine S_storeOwn 8 rfl rfl rfl rfl rfl rfl sz98 rfl rfl ?_ (xs' := ((gs ++ [(⟨x.k, x.t, (⟨some ⟨b21, 0, none⟩, x.fr.q, x.fr.q, x.fr.l⟩ : Sl Frm)⟩ : Flt)]) ++ e.fa.l.drop (i + 1)).flatMap Flt.enc) ?_ ?_
    · (rw [flat_lenN (enc := Flt.enc) (size := 3) (fun _ => rfl)]; simp; omega)
    · rw [← set_next hp2 hx2]; exact flat_set (enc := Flt.enc) (size := 3) (off := 2) (fun _ => rfl) (at_next hp2 hx2) (by decide) rfl
    refine sgr ?_
    refine s1 (y_bin rfl rfl rfl (fun hg => b_add (by omega))) ?_
    refine sr 1 ?_
    refine S_known (fun w hM => hM.apart_row (m := 900) (i := 21) rfl rfl rfl) (fun hap => ?_)
    refine S_bank [(21, 21), (900, 900)] 900 21 rfl rfl rfl rfl (by repeat (first | exact kl_nil | exact kl_rest (by assumption) rfl | (apply kl_in; focus rfl) | (apply kl_out; focus rfl))) ?_
    refine S_nil (nK3 (kf := [(3, 5), (13, 32)]) (kl := [(3, 5), (8, 8), (13, 32), (900, 900)]) (i + 1) (gs ++ [(⟨x.k, x.t, (⟨some ⟨b21, 0, none⟩, x.fr.q, x.fr.q, x.fr.l⟩ : Sl Frm)⟩ : Flt)]) (rs ++ [⟨105, 6, .slice (some ⟨b21, 0, none⟩) x.fr.q x.fr.q, x.fr.q, x.fr.l.flatMap Frm.enc⟩]) ?_ ?_ ?_ ?_)
    · omega
    · exact ⟨by omega, by simp [hp2], by rw [List.map_append, hp3, take_at hx1, List.map_append]; rfl, fun f hf => by
        rcases List.mem_append.1 hf with h | h
        · exact hp4 f h
        · simp only [List.mem_singleton] at h
          subst h
          exact hxf.ok.t.len.symm, by rw [hp5, List.map_append]; rfl, dis_snoc hp6 (fun f hf b hb he => hap (frRow f) (by rw [hp5]; exact List.mem_map.2 ⟨f, hf, rfl⟩) b he hb)⟩
    · exact ⟨rfl, trivial⟩
    · exact ⟨rfl, rfl, trivial⟩
  try simp only [nrm] at h14
  refine egx ?_
  refine s1 (yF fa31_4) ?_
  refine s1 (yL 1 Tryz.underlying28) ?_
  refine S_callOwn 35 35 rfl rfl rfl rfl rfl rfl rfl cf47 (fun A c => .slice A (e.ta.q) c) 92 2 (e.ta.q) (e.ta.l.flatMap STag.enc) (fun w hM => CloneTag_any e.ta w (he.ta.ok.below hM.below) (by omega)) ?_
  intro A35 c35
  refine s1 (yF fa31_4) ?_
  refine S_store 1 rfl rfl rfl rfl rfl rfl sz28 rfl rfl ?_
  refine sgx ?_
  refine s1 (yF fa31_5) ?_
  refine s1 (yL 1 Tryz.underlying29) ?_
  refine S_callOwn 39 39 rfl rfl rfl rfl rfl rfl rfl cf48 (fun A c => .slice A (e.cr.q) c) 95 3 (e.cr.q) (e.cr.l.flatMap SCrumb.enc) (fun w hM => CloneCrumb_any e.cr w (he.cr.ok.below hM.below) (by omega)) ?_
  intro A39 c39
  refine s1 (yF fa31_5) ?_
  refine S_store 1 rfl rfl rfl rfl rfl rfl sz29 rfl rfl ?_
  refine sgx ?_
  refine s1 (yA 1 rfl Tryz.underlying31 sz31) ?_
  refine S_store 2 rfl rfl rfl rfl rfl rfl sz31 rfl rfl ?_
  refine sgo ?_
  refine T_ret (fun a w hF hM => hRb a w (post_cell1 2 rfl rfl rfl Tryz.underlying31 rfl (by exact sz31) (fun w hM => ?_) a w hF hM))
  exact ⟨⟨A8, c8, gs, rs, A35, c35, A39, c39⟩, rfl, ⟨by rw [hp3, List.take_of_length_le (by omega)], hp4, hp5, hp6⟩, hM.keep (ks := [(0, 999)]) (by repeat (first | exact kl_rest (by assumption) rfl | (apply kl_in; focus rfl))) _ ⟨by rw [hft.end (by omega : e.fa.q ≤ i), List.append_nil]; rfl, rfl, rfl, rfl, trivial⟩⟩
end Go.Proofs.YtekbcbjimajnfaaGreatDoor
end
section
namespace Go.Proofs.YtekbcbjimajnfaaGreatDoor
set_option linter.unusedSimpArgs false
set_option linter.unusedVariables false
set_option maxRecDepth 20000
open Go.RowKit Go.Eng
/-! ### step -/
end Go.Proofs.YtekbcbjimajnfaaGreatDoor
end
section
namespace Go.Proofs.YtekbcbjimajnfaaGreatDoor
set_option linter.unusedSimpArgs false
set_option linter.unusedVariables false
set_option maxRecDepth 20000
open Go.RowKit Go.Eng
def lowB (c : UInt8) : UInt8 := UInt8.ofNat (lowN c.toNat)
theorem lowN_lt (c : UInt8) : lowN c.toNat < 256 := by
  have := UInt8.toNat_lt c
  unfold lowN; split <;> omega
theorem lowB_nat (c : UInt8) : (lowB c).toNat = lowN c.toNat := by
  rw [lowB]; simp; exact lowN_lt c
end Go.Proofs.YtekbcbjimajnfaaGreatDoor
end
section
namespace Go.Proofs.YtekbcbjimajnfaaGreatDoor
set_option linter.unusedSimpArgs false
set_option linter.unusedVariables false
set_option maxRecDepth 20000
open Go.RowKit Go.Eng
theorem bytesV_len (l : List UInt8) : (bytesV l).length = l.length := by simp [bytesV]
theorem low_set {s : List UInt8} {i : Nat} (h : i < s.length) : (bytesV ((s.take i).map lowB ++ s.drop i)).set i (.int .u8 ((lowN (s.getD i 0).toNat : Nat) : Int)) = bytesV ((s.take (i + 1)).map lowB ++ s.drop (i + 1)) := by
  have h1 : s.drop i = s.getD i 0 :: s.drop (i + 1) := by
    rw [List.drop_eq_getElem_cons h, List.getD_eq_getElem?_getD, List.getElem?_eq_getElem h]; rfl
  have h2 : s.take (i + 1) = s.take i ++ [s.getD i 0] := by
    rw [List.getD_eq_getElem?_getD, List.getElem?_eq_getElem h, List.take_succ_eq_append_getElem h]; rfl
  rw [h1, h2, bytesV, bytesV, List.map_append, List.map_cons, List.map_append, List.map_append, List.map_append]
  rw [List.set_append_right _ _ (by simp; omega)]
  simp [Nat.min_eq_left (Nat.le_of_lt h), lowB_nat]
theorem low_at {s : List UInt8} {i : Nat} (h : i < s.length) : (bytesV ((s.take i).map lowB ++ s.drop i))[i]? = some (.int .u8 (((s.getD i 0).toNat : Nat) : Int)) := by
  have h1 : s.drop i = s.getD i 0 :: s.drop (i + 1) := by
    rw [List.drop_eq_getElem_cons h, List.getD_eq_getElem?_getD, List.getElem?_eq_getElem h]; rfl
  rw [h1, bytesV, List.getElem?_map, List.getElem?_append_right (by simp; omega)]
  simp [Nat.min_eq_left (Nat.le_of_lt h)]
theorem low_len (s : List UInt8) (i : Nat) : ((s.take i).map lowB ++ s.drop i).length = s.length := by simp; omega
theorem low_end {s : List UInt8} {i : Nat} (h : s.length ≤ i) : (s.take i).map lowB ++ s.drop i = s.map lowB := by
  rw [List.take_of_length_le h, List.drop_eq_nil_of_le h, List.append_nil]
end Go.Proofs.YtekbcbjimajnfaaGreatDoor
end
section
namespace Go.Proofs.YtekbcbjimajnfaaGreatDoor
set_option linter.unusedSimpArgs false
set_option linter.unusedVariables false
set_option maxRecDepth 20000
open Go.RowKit Go.Eng
/-! ### Right -/
theorem chkL_zero {hd : Int → Nat → Int → Int → List UInt8 → List UInt8 → Int} : ∀ {l : List PC}, chkL hd l = 0 ↔ ∀ k ∈ l, chkP hd k = 0
  | [] => by simp [chkL]
  | a :: r => by
    rw [chkL]
    by_cases h : chkP hd a = 0
    · rw [if_neg (by simp [h]), chkL_zero]
      exact ⟨fun h2 k hk => by
        rcases List.mem_cons.1 hk with rfl | hk
        · exact h
        · exact h2 k hk, fun h2 k hk => h2 k (List.mem_cons_of_mem _ hk)⟩
    · rw [if_pos h]
      exact ⟨fun h2 => absurd h2 h, fun h2 => h2 a List.mem_cons_self⟩
theorem chkP_zero {hd : Int → Nat → Int → Int → List UInt8 → List UInt8 → Int} {op lo hi : Int} {kids : List PC} {n t : List UInt8} : chkP hd (.mk op kids lo hi n t) = 0 ↔ hd op kids.length lo hi n t = 0 ∧ ∀ k ∈ kids, chkP hd k = 0 := by
  rw [chkP]
  by_cases h : hd op kids.length lo hi n t = 0
  · rw [if_neg (by simp [h]), chkL_zero]; simp [h]
  · rw [if_pos h]; simp [h]
section
variable {txt : List UInt8 → Int} {nm : List UInt8 → Bool} {op lo hi : Int} {nk nk' : Nat} {n t : List UInt8}
theorem head_ar (h : chdNo txt nm op nk lo hi n t = 0) : (1 ≤ op ∧ op ≤ 14) ∧ (0 < nk → op ≤ 3) ∧ (op = 1 ∨ op = 2 → 2 ≤ nk) ∧ (op = 3 → nk = 1) := by
  unfold chdNo at h
  split at h
  · cases h
  rename_i h1
  split at h
  · cases h
  rename_i h2
  split at h
  · cases h
  rename_i h3
  simp only [inB, Bool.not_eq_false', Bool.or_eq_true, Bool.and_eq_true, decide_eq_true_eq, not_or, Bool.not_eq_true', Bool.or_eq_false_iff, decide_eq_false_iff_not, grpB, not_and, Bool.not_eq_false, Bool.not_eq_true, Classical.not_not] at h1 h2 h3
  refine ⟨by omega, fun hk => ?_, fun ho => ?_, fun ho => ?_⟩
  · have := h2.1.1.1 hk; omega
  · have := h3.1 ho; omega
  · exact h3.2 ho
end
/-! ### Plain -/
def flatK (op : Int) (k : PC) : List PC := if joinB op k = true then k.kids else [k]
theorem chk_kid {hd : Int → Nat → Int → Int → List UInt8 → List UInt8 → Int} {c k : PC} (h : chkP hd c = 0) (hk : k ∈ c.kids) : chkP hd k = 0 := by
  cases c
  exact (chkP_zero.1 h).2 k hk
end Go.Proofs.YtekbcbjimajnfaaGreatDoor
end
section
namespace Go.Proofs.YtekbcbjimajnfaaGreatDoor
set_option linter.unusedSimpArgs false
set_option linter.unusedVariables false
set_option maxRecDepth 20000
open Go.RowKit Go.Eng
theorem fst_0F {a b : Int} (h : fst a b = 0) : a = 0 ∧ b = 0 := by
  unfold fst at h
  split at h
  · exact absurd h ‹_›
  · exact ⟨by omega, h⟩
theorem flts_smallF : ∀ l : List Flt, fltsNo l = 0 → ∀ f ∈ l, fltNo f = 0
  | [], _ => fun f h => by simp at h
  | a :: r, h => fun f hf => by
    rw [fltsNo] at h
    by_cases ha : fltNo a = 0
    · rw [if_neg (by simpa using ha)] at h
      rcases List.mem_cons.1 hf with rfl | h1
      · exact ha
      · exact flts_smallF r h f h1
    · rw [if_pos ha] at h; exact absurd h ha
theorem frms_smallF : ∀ l : List Frm, frmsNo l = 0 → ∀ f ∈ l, frmNo f = 0
  | [], _ => fun f h => by simp at h
  | a :: r, h => fun f hf => by
    rw [frmsNo] at h
    by_cases ha : frmNo a = 0
    · rw [if_neg (by simpa using ha)] at h
      rcases List.mem_cons.1 hf with rfl | h1
      · exact ha
      · exact frms_smallF r h f h1
    · rw [if_pos ha] at h; exact absurd h ha
structure FltS (f : Flt) : Prop where
  k : f.k.length ≤ 2000
  t : f.t.length ≤ 2000
  fr : ∀ x ∈ f.fr.l, x.f.length ≤ 2000 ∧ x.fi.length ≤ 2000
structure EvS (e : Evt) : Prop where
  rel : e.rel.length ≤ 2000
  us : e.us.length ≤ 2000
  ta : ∀ t ∈ e.ta.l, t.v.length ≤ 2000
  fa : ∀ f ∈ e.fa.l, FltS f
theorem frm_small {x : Frm} (h : frmNo x = 0) : x.f.length ≤ 2000 ∧ x.fi.length ≤ 2000 := by
  have hw : wordsNo x.m x.f x.fi = 0 := by
    unfold frmNo at h
    by_cases hw : wordsNo x.m x.f x.fi = 0
    · exact hw
    · rw [if_pos hw] at h; exact absurd h hw
  unfold wordsNo at hw
  split at hw
  · cases hw
  · rename_i hb
    simp only [Bool.or_eq_true, decide_eq_true_eq, not_or] at hb
    omega
theorem flt_small {f : Flt} (h : fltNo f = 0) : FltS f := by
  unfold fltNo at h
  split at h
  · cases h
  rename_i h1
  split at h
  · cases h
  split at h
  · cases h
  by_cases h2 : sayNo f.t = 0
  · rw [if_neg (by simpa using h2)] at h
    refine ⟨by omega, ?_, fun x hx => ?_⟩
    · unfold sayNo at h2
      split at h2
      · cases h2
      · omega
    · unfold framesNo at h
      split at h
      · cases h
      · exact frm_small (frms_smallF _ h x hx)
  · rw [if_pos h2] at h; exact absurd h h2
theorem tags_small : ∀ (l : List STag) (p : Option (List UInt8)), tagsNo p l = 0 → ∀ t ∈ l, t.v.length ≤ 2000
  | [], _, _ => fun t h => by simp at h
  | a :: r, p, h => fun t ht => by
    rw [tagsNo] at h
    split at h
    · cases h
    split at h
    · cases h
    by_cases hv : valNo a.v = 0
    · rw [if_neg (by simpa using hv)] at h
      rcases List.mem_cons.1 ht with rfl | h1
      · unfold valNo at hv
        split at hv
        · cases hv
        · omega
      · exact tags_small r _ h t h1
    · rw [if_pos hv] at h; exact absurd h hv
theorem ev_small {e : Evt} (h : evNo e = 0) : EvS e := by
  unfold evNo at h
  obtain ⟨_, h⟩ := fst_0F h
  obtain ⟨h1, h⟩ := fst_0F h
  obtain ⟨h2, h⟩ := fst_0F h
  obtain ⟨_, h⟩ := fst_0F h
  split at h
  · cases h
  rename_i hr
  obtain ⟨h3, _⟩ := fst_0F h
  refine ⟨?_, ?_, ?_, ?_⟩
  · simp only [Bool.and_eq_true, Bool.not_eq_true', decide_eq_false_iff_not, not_and, Bool.not_eq_false] at hr
    by_cases he : e.rel = []
    · rw [he]; simp
    · have := hr he
      unfold nameOk at this
      simp only [Bool.and_eq_true, decide_eq_true_eq] at this
      omega
  · unfold valNo at h3
    split at h3
    · cases h3
    · omega
  · split at h2
    · cases h2
    · exact tags_small _ _ h2
  · unfold faultsNo at h1
    split at h1
    · cases h1
    split at h1
    · cases h1
    · exact fun f hf => flt_small (flts_smallF _ h1 f hf)
theorem tagV_small {n : List UInt8} : ∀ {l : List STag}, (∀ t ∈ l, t.v.length ≤ 2000) → (tagV n l).1.length ≤ 2000
  | [], _ => by simp [tagV]
  | a :: r, h => by
    rw [tagV]
    split
    · exact h a List.mem_cons_self
    · exact tagV_small fun t ht => h t (List.mem_cons_of_mem _ ht)
/-- what a leaf asks of an event -/
def lfB (e : Evt) (c : PC) : Bool :=
  if c.op = 4 then inB e.lv c.lo c.hi
  else if c.op = 5 then inB e.at_ c.lo c.hi
  else if c.op = 6 then inB e.wt c.lo c.hi
  else if c.op = 7 ∨ c.op = 8 then (tagV c.name e.ta.l).2 && (decide (c.op = 8) || gm eqL c.text (tagV c.name e.ta.l).1)
  else if c.op = 9 then !decide (e.rel = []) && gm eqL c.text e.rel
  else if c.op = 10 then !decide (e.us = []) && gm eqL c.text e.us
  else if c.op = 11 then e.fa.l.any fun f => gm eqL c.text f.k
  else if c.op = 12 then e.fa.l.any fun f => Lib.contains (f.t.map lowB) (c.text.map lowB)
  else if c.op = 13 then e.fa.l.any fun f => f.fr.l.any fun x => gm eqL c.text x.f
  else e.fa.l.any fun f => f.fr.l.any fun x => gm eqL c.text x.fi
abbrev hoX (e : Evt) (x : SC) : Bool := holdsP (lfB e) x.says
theorem ho1 {e : Evt} {x : SC} (h : x.op = 1) : hoX e x = x.kids.all (hoX e) := by
  show holdsP _ x.says = _
  rw [SC.says_form, holdsP, if_pos h, holdsA_all, List.all_map]; rfl
theorem ho2 {e : Evt} {x : SC} (h : x.op = 2) : hoX e x = x.kids.any (hoX e) := by
  show holdsP _ x.says = _
  rw [SC.says_form, holdsP, if_neg (by omega), if_pos h, holdsO_any, List.any_map]; rfl
theorem ho3 {e : Evt} {x k : SC} (h : x.op = 3) (hk : x.kids = [k]) : hoX e x = !hoX e k := by
  show holdsP _ x.says = _
  rw [SC.says_form, holdsP, if_neg (by omega), if_neg (by omega), if_pos h, hk, List.map_cons, holdsF]
theorem hoL {e : Evt} {x : SC} (h : 4 ≤ x.op) : hoX e x = lfB e (.mk x.op [] x.lo x.hi x.nm x.tx) := by
  show holdsP _ x.says = _
  rw [SC.says_form, holdsP, if_neg (by omega), if_neg (by omega), if_neg (by omega)]
section
variable {e : Evt} {x : SC}
theorem ho4 (h : x.op = 4) : hoX e x = inB e.lv x.lo x.hi := by rw [hoL (by omega), h]; rfl
theorem ho5 (h : x.op = 5) : hoX e x = inB e.at_ x.lo x.hi := by rw [hoL (by omega), h]; rfl
theorem ho6 (h : x.op = 6) : hoX e x = inB e.wt x.lo x.hi := by rw [hoL (by omega), h]; rfl
theorem ho7 (h : x.op = 7 ∨ x.op = 8) : hoX e x = ((tagV x.nm e.ta.l).2 && (decide (x.op = 8) || gm eqL x.tx (tagV x.nm e.ta.l).1)) := by
  rw [hoL (by omega)]
  rcases h with h | h <;> rw [h] <;> rfl
theorem ho9 (h : x.op = 9) : hoX e x = (!decide (e.rel = []) && gm eqL x.tx e.rel) := by rw [hoL (by omega), h]; rfl
theorem ho10 (h : x.op = 10) : hoX e x = (!decide (e.us = []) && gm eqL x.tx e.us) := by rw [hoL (by omega), h]; rfl
theorem ho11 (h : x.op = 11) : hoX e x = e.fa.l.any fun f => gm eqL x.tx f.k := by rw [hoL (by omega), h]; rfl
theorem ho12 (h : x.op = 12) : hoX e x = e.fa.l.any fun f => Lib.contains (f.t.map lowB) (x.tx.map lowB) := by rw [hoL (by omega), h]; rfl
theorem ho13 (h : x.op = 13) : hoX e x = e.fa.l.any fun f => f.fr.l.any fun y => gm eqL x.tx y.f := by rw [hoL (by omega), h]; rfl
theorem ho14 (h : x.op = 14) : hoX e x = e.fa.l.any fun f => f.fr.l.any fun y => gm eqL x.tx y.fi := by rw [hoL (by omega), h]; rfl
end
/-- a right condition is small -/
theorem ch_kids {x k : SC} (h : chX x = 0) (hk : k ∈ x.kids) : chX k = 0 :=
  chk_kid (c := x.says) h (by rw [SC.says_kids]; exact List.mem_map_of_mem hk)
theorem ch_head {x : SC} (h : chX x = 0) : hdX x = 0 := by
  refine Classical.byContradiction fun hn => ?_
  rw [chX_def, if_pos hn] at h
  exact hn h
theorem ch_ar {x : SC} (h : chX x = 0) : (1 ≤ x.op ∧ x.op ≤ 14) ∧ (0 < x.kids.length → x.op ≤ 3) ∧ (x.op = 1 ∨ x.op = 2 → 2 ≤ x.kids.length) ∧ (x.op = 3 → x.kids.length = 1) := head_ar (ch_head h)
theorem ch_text {x : SC} (h : chX x = 0) : x.tx.length ≤ 200 := by
  have h := ch_head h
  rw [hd_def] at h
  split at h
  · cases h
  split at h
  · cases h
  rename_i h1
  split at h
  · cases h
  split at h
  · cases h
  split at h
  · cases h
  split at h
  · cases h
  split at h
  · unfold txtNo at h
    split at h
    · cases h
    split at h
    · cases h
    omega
  · rename_i hw
    simp only [f1B, Bool.or_eq_true, Bool.and_eq_true, not_or, not_and, Bool.not_eq_true', decide_eq_false_iff_not] at h1
    have := h1.2
    by_cases ht : x.tx = []
    · rw [ht]; simp
    · have h2 := this ht
      exact absurd (by simpa using h2) hw
end Go.Proofs.YtekbcbjimajnfaaGreatDoor
end
section
namespace Go.Proofs.YtekbcbjimajnfaaGreatDoor
set_option linter.unusedSimpArgs false
set_option linter.unusedVariables false
set_option maxRecDepth 20000
open Go.RowKit Go.Eng
/-! ### one string -/
/-! ### sums that are nought -/
/-! ### elements -/
section
variable {r r2 : SRl}
/-! ### events -/
end
/-! ### all rules -/
/-! ### the same content -/
structure ContE (a b : Evt) : Prop where
  id : a.id = b.id
  at_ : a.at_ = b.at_
  lv : a.lv = b.lv
  rel : a.rel = b.rel
  us : a.us = b.us
  wt : a.wt = b.wt
  fa : a.fa.l.map Flt.cont = b.fa.l.map Flt.cont
  fq : a.fa.q = b.fa.q
  ta : a.ta.l = b.ta.l
  tq : a.ta.q = b.ta.q
  cr : a.cr.l = b.cr.l
  cq : a.cr.q = b.cr.q
def FitE (e : Evt) : Prop := ∀ f ∈ e.fa.l, f.fr.q = f.fr.l.length
theorem flts_contM : ∀ {x y : List Flt}, x.map Flt.cont = y.map Flt.cont → (∀ f ∈ x, f.fr.q = f.fr.l.length) → (∀ f ∈ y, f.fr.q = f.fr.l.length) → fltsNo x = fltsNo y
  | [], [], _, _, _ => rfl
  | [], _ :: _, h, _, _ => by simp at h
  | _ :: _, [], h, _, _ => by simp at h
  | u :: x, v :: y, h, hx, hy => by
    simp only [List.map_cons, List.cons.injEq] at h
    obtain ⟨h1, h2⟩ := h
    simp only [Flt.cont, Prod.mk.injEq] at h1
    obtain ⟨hk, ht, hl⟩ := h1
    have hq : u.fr.q = v.fr.q := by rw [hx u (List.mem_cons_self ..), hy v (List.mem_cons_self ..), hl]
    have e : fltNo u = fltNo v := by rw [fltNo, fltNo, hk, ht, framesNo, framesNo, hl, hq]
    rw [fltsNo, fltsNo, e, flts_contM h2 (fun f hf => hx f (List.mem_cons_of_mem _ hf)) (fun f hf => hy f (List.mem_cons_of_mem _ hf))]
theorem evNo_same {a b : Evt} (h : ContE a b) (ha : FitE a) (hb : FitE b) : evNo a = evNo b := by
  rw [evNo, evNo, h.id, h.at_, h.lv, faultsNo, faultsNo, h.fq, flts_contM h.fa ha hb, h.ta, h.tq, h.cr, h.cq, h.rel, h.us, h.wt]
/-! ### what a right event's lengths are -/
theorem crumbs_smallM : ∀ (l : List SCrumb) (p : Option Int), crumbsNo p l = 0 → ∀ t ∈ l, t.t.length ≤ 2000
  | [], _, _ => fun t h => by simp at h
  | a :: r, p, h => fun t ht => by
    rw [crumbsNo] at h
    split at h
    · cases h
    split at h
    · cases h
    split at h
    · cases h
    by_cases hv : sayNo a.t = 0
    · rw [if_neg (by simpa using hv)] at h
      rcases List.mem_cons.1 ht with rfl | h1
      · unfold sayNo at hv
        split at hv
        · cases hv
        · omega
      · exact crumbs_smallM r _ h t h1
    · rw [if_pos hv] at h; exact absurd h hv
theorem flt_qM {f : Flt} (h : fltNo f = 0) : f.fr.q ≤ 200 := by
  unfold fltNo at h
  split at h
  · cases h
  split at h
  · cases h
  split at h
  · cases h
  by_cases h2 : sayNo f.t = 0
  · rw [if_neg (by simpa using h2)] at h
    unfold framesNo at h
    split at h
    · cases h
    · omega
  · rw [if_pos h2] at h; exact absurd h h2
/-- the parts that stay whatever a rule does -/
structure OkE (e : Evt) : Prop where
  fa : ∀ f ∈ e.fa.l, f.k.length ≤ 4611686018427387904 ∧ f.t.length ≤ 4611686018427387904 ∧ f.fr.l.length = f.fr.q ∧ f.fr.q ≤ 4611686018427387904 ∧ ∀ x ∈ f.fr.l, x.m.length ≤ 4611686018427387904 ∧ x.f.length ≤ 4611686018427387904 ∧ x.fi.length ≤ 4611686018427387904
  fq : e.fa.l.length = e.fa.q ∧ e.fa.q ≤ 4611686018427387904
  ta : ∀ t ∈ e.ta.l, t.n.length ≤ 4611686018427387904 ∧ t.v.length ≤ 4611686018427387904
  tq : e.ta.l.length = e.ta.q ∧ e.ta.q ≤ 4611686018427387904
  cr : ∀ t ∈ e.cr.l, t.k.length ≤ 4611686018427387904 ∧ t.t.length ≤ 4611686018427387904
  cq : e.cr.l.length = e.cr.q ∧ e.cr.q ≤ 4611686018427387904
  id : e.id.length ≤ 4611686018427387904
  rel : e.rel.length ≤ 4611686018427387904
  us : e.us.length ≤ 4611686018427387904
theorem OkE.fit {e : Evt} (h : OkE e) : FitE e := fun f hf => (h.fa f hf).2.2.1.symm
theorem OkE.of {w : World} {e : Evt} (h : e.Ok w) : OkE e :=
  ⟨fun f hf => ⟨(h.fa.n f hf).k, (h.fa.n f hf).t, (h.fa.n f hf).fr.ok.t.len, (h.fa.n f hf).fr.q, (h.fa.n f hf).fr.n⟩, ⟨h.fa.ok.t.len, h.fa.q⟩, h.ta.n, ⟨h.ta.ok.t.len, h.ta.q⟩, h.cr.n, ⟨h.cr.ok.t.len, h.cr.q⟩, h.id, h.rel, h.us⟩
/-- .. in memory -/
theorem evOk_of {w : World} {B : Nat} {e : Evt} (hp : OkE e) (h1 : w.ownsRow B 100 3 (.slice e.fa.A e.fa.q e.fa.c) e.fa.q (e.fa.l.flatMap Flt.enc)) (h2 : ∀ r ∈ e.fa.l.map frRow, w.ownsRow B r.t r.size r.v r.n r.xs)
    (h3 : w.ownsRow B 92 2 (.slice e.ta.A e.ta.q e.ta.c) e.ta.q (e.ta.l.flatMap STag.enc)) (h4 : w.ownsRow B 95 3 (.slice e.cr.A e.cr.q e.cr.c) e.cr.q (e.cr.l.flatMap SCrumb.enc)) : e.Ok w :=
  ⟨⟨row_ok h1 hp.fq.1, hp.fq.2, fun f hf => ⟨(hp.fa f hf).1, (hp.fa f hf).2.1, row_ok (h2 (frRow f) (List.mem_map.2 ⟨f, hf, rfl⟩)) (hp.fa f hf).2.2.1, (hp.fa f hf).2.2.2.1, (hp.fa f hf).2.2.2.2⟩⟩,
   ⟨row_ok h3 hp.tq.1, hp.tq.2, hp.ta⟩, ⟨row_ok h4 hp.cq.1, hp.cq.2, hp.cr⟩, hp.id, hp.rel, hp.us⟩
theorem LenE.of {e : Evt} (h : evNo e = 0) (ho : OkE e) : LenE e := by
  have hs := ev_small h
  have h' := h
  unfold evNo at h'
  obtain ⟨_, h'⟩ := fst_0F h'
  obtain ⟨h1, h'⟩ := fst_0F h'
  obtain ⟨h2, h'⟩ := fst_0F h'
  obtain ⟨h3, _⟩ := fst_0F h'
  have hfq : e.fa.q ≤ 10 ∧ ∀ f ∈ e.fa.l, fltNo f = 0 := by
    unfold faultsNo at h1
    split at h1
    · cases h1
    split at h1
    · cases h1
    · exact ⟨by omega, flts_smallF _ h1⟩
  have htq : e.ta.q ≤ 40 := by
    split at h2
    · cases h2
    · omega
  have hcq : e.cr.q ≤ 50 ∧ ∀ t ∈ e.cr.l, t.t.length ≤ 2000 := by
    split at h3
    · cases h3
    · exact ⟨by omega, crumbs_smallM _ _ h3⟩
  exact ⟨Nat.le_trans hs.us (by decide), fun t ht => ⟨(ho.ta t ht).1, Nat.le_trans (hs.ta t ht) (by decide)⟩, fun t ht => ⟨(ho.cr t ht).1, Nat.le_trans (hcq.2 t ht) (by decide)⟩,
    fun f hf => ⟨Nat.le_trans (hs.fa f hf).t (by decide), Nat.le_trans (flt_qM (hfq.2 f hf)) (by decide), (ho.fa f hf).2.2.1, fun x hx => Nat.le_trans ((hs.fa f hf).fr x hx).2 (by decide)⟩, ⟨by omega, ho.fq.1⟩, ⟨by omega, ho.tq.1⟩, ⟨by omega, ho.cq.1⟩⟩
end Go.Proofs.YtekbcbjimajnfaaGreatDoor
end
section
namespace Go.Proofs.YtekbcbjimajnfaaGreatDoor
set_option linter.unusedSimpArgs false
set_option linter.unusedVariables false
set_option maxRecDepth 20000
open Go.RowKit Go.Eng
end Go.Proofs.YtekbcbjimajnfaaGreatDoor
end
section
namespace Go.Proofs.YtekbcbjimajnfaaGreatDoor
set_option linter.unusedSimpArgs false
set_option linter.unusedVariables false
set_option maxRecDepth 20000
open Go.RowKit Go.Eng
theorem cont_mem {a b : Evt} (h : ContE a b) : ∀ f ∈ a.fa.l, ∃ g ∈ b.fa.l, f.cont = g.cont := fun f hf => by
  have : f.cont ∈ b.fa.l.map Flt.cont := by rw [← h.fa]; exact List.mem_map.2 ⟨f, hf, rfl⟩
  obtain ⟨g, hg, he⟩ := List.mem_map.1 this
  exact ⟨g, hg, he.symm⟩
theorem OkE.cont {a b : Evt} (hb : OkE b) (h : ContE a b) (hf : FitE a) : OkE a := by
  refine ⟨fun f hfm => ?_, ⟨?_, by rw [h.fq]; exact hb.fq.2⟩, by rw [h.ta]; exact hb.ta, by rw [h.ta, h.tq]; exact hb.tq, by rw [h.cr]; exact hb.cr, by rw [h.cr, h.cq]; exact hb.cq, by rw [h.id]; exact hb.id, by rw [h.rel]; exact hb.rel, by rw [h.us]; exact hb.us⟩
  · obtain ⟨g, hg, he⟩ := cont_mem h f hfm
    have hh := hb.fa g hg
    simp only [Flt.cont, Prod.mk.injEq] at he
    obtain ⟨hk, ht, hl⟩ := he
    have hq := hf f hfm
    refine ⟨by rw [hk]; exact hh.1, by rw [ht]; exact hh.2.1, hq.symm, by rw [hq, hl, hh.2.2.1]; exact hh.2.2.2.1, by rw [hl]; exact hh.2.2.2.2⟩
  · have := congrArg List.length h.fa
    rw [List.length_map, List.length_map] at this
    rw [this, h.fq]; exact hb.fq.1
abbrev rsEv (e : Evt) : List Row := ((e.fa.l.map frRow ++ [(⟨100, 3, .slice e.fa.A e.fa.q e.fa.c, e.fa.q, e.fa.l.flatMap Flt.enc⟩ : Row)]) ++ [(⟨92, 2, .slice e.ta.A e.ta.q e.ta.c, e.ta.q, e.ta.l.flatMap STag.enc⟩ : Row)]) ++ [(⟨95, 3, .slice e.cr.A e.cr.q e.cr.c, e.cr.q, e.cr.l.flatMap SCrumb.enc⟩ : Row)]
theorem sees_ev {w0 : World} {e : Evt} (h : OkE e) : Sees w0 (rsEv e) fun w => e.Ok w := fun w _ hr =>
  evOk_of h (hr _ (List.mem_append_left _ (List.mem_append_left _ (List.mem_append_right _ (List.mem_singleton.2 rfl))))) (fun r hx => hr r (List.mem_append_left _ (List.mem_append_left _ (List.mem_append_left _ hx))))
    (hr _ (List.mem_append_left _ (List.mem_append_right _ (List.mem_singleton.2 rfl)))) (hr _ (List.mem_append_right _ (List.mem_singleton.2 rfl)))
def evZM : Evt := ⟨[], 0, 0, ⟨none, 0, 0, []⟩, ⟨none, 0, 0, []⟩, ⟨none, 0, 0, []⟩, [], [], 0⟩
end Go.Proofs.YtekbcbjimajnfaaGreatDoor
end
section
namespace Go.Proofs.YtekbcbjimajnfaaGreatDoor
set_option linter.unusedSimpArgs false
set_option linter.unusedVariables false
set_option maxRecDepth 20000
open Go.RowKit Go.Eng
/-- a block's cells, as they stand for good -/
abbrev CellsAt (w : World) (b : Nat) (cs : List Value) : Prop := (∀ j u, cs[j]? = some u → w.cell? ((⟨b, 0, none⟩ : Addr).add j) = some u) ∧ b < w.heap.size
theorem CellsAt.one {w : World} {b j : Nat} {cs : List Value} {u : Value} (h : CellsAt w b cs) (hj : cs[j]? = some u) : w.cell? ((⟨b, 0, none⟩ : Addr).add j) = some u ∧ ((⟨b, 0, none⟩ : Addr).add j).block < w.heap.size := ⟨h.1 j u hj, by rw [block_of_add]; exact h.2⟩
theorem add_plain (b j : Nat) : (⟨b, 0, none⟩ : Addr).add j = ⟨b, j, none⟩ := by unfold Addr.add; split <;> simp_all
theorem cells_of {w : World} {b : Nat} {cs : List Value} (h : CellsIn b cs w) : CellsAt w b cs := ⟨fun j u hu => by rw [add_plain]; exact h.1 j u hu, h.2⟩
theorem cells_to {w w' : World} {b : Nat} {cs : List Value} (h : CellsAt w b cs) (hb : Below w.heap.size w w') : CellsAt w' b cs := cells_below h hb
/-- a function value with what it has captured -/
structure Fn where
  g : FuncId
  cap : Array Value
abbrev Fn.v (f : Fn) : Value := .func (.func f.g) #[] f.cap
abbrev CfOf (g : FuncId) : Prop := ∀ args w, (callFunc g args).run Tryz.prog w = .ok (.enter g args) w
/-- a function value that asks -/
def AskF {α : Type} (val : α → Value) (ok : World → α → Prop) (f : Fn) (p : α → Bool) (w : World) : Prop :=
  CfOf f.g ∧ ∀ w', Below w.heap.size w w' → ∀ x, ok w' x → Calls Tryz.prog f.g (#[val x] ++ f.cap) w' fun e w'' => e = .returned (.bool (p x)) ∧ Below w'.heap.size w' w''
theorem AskF.below {α : Type} {val : α → Value} {ok : World → α → Prop} {f : Fn} {p : α → Bool} {w w' : World} (h : AskF val ok f p w) (hb : Below w.heap.size w w') : AskF val ok f p w' :=
  ⟨h.1, fun w'' hb2 => h.2 w'' (hb.trans (hb2.mono hb.size))⟩
theorem AskF.ext {α : Type} {val : α → Value} {ok : World → α → Prop} {f : Fn} {p q : α → Bool} {w : World} (h : AskF val ok f p w) (hpq : ∀ x, q x = p x) : AskF val ok f q w := by
  rw [show q = p from funext hpq]; exact h
def FltR (w : World) (f : Flt) : Prop := FltOk w f ∧ FltS f
def FrmR (_ : World) (x : Frm) : Prop := x.f.length ≤ 2000 ∧ x.fi.length ≤ 2000
def EvR (w : World) (e : Evt) : Prop := e.Ok w ∧ EvS e
theorem EvR.below {w w' : World} {e : Evt} (h : EvR w e) (hb : Below w.heap.size w w') : EvR w' e := ⟨h.1.below hb, h.2⟩
abbrev fnE (z : Fn × SC) : List Value := [.func (.func z.1.g) #[] z.1.cap]
theorem IndexFF_any (A : Option Addr) (q c : Nat) (l : List Flt) (g : FuncId) (cap : Array Value) (p : Flt → Bool) (w : World) (hl : SlT Flt.enc 3 w A q l) (hq : q ≤ 4611686018427387904) (hcf : ∀ args w, (callFunc g args).run Tryz.prog w = .ok (.enter g args) w)
    (hA : ∀ x ∈ l, ∀ w', Below w.heap.size w w' → Calls Tryz.prog g (#[x.val] ++ cap) w' fun e w'' => e = .returned (.bool (p x)) ∧ Below w'.heap.size w' w'') :
    Calls Tryz.prog 214 #[.slice A q c, .func (.func g) #[] cap] w fun e w' => e = .returned (.int .i64 (fndP p l 0)) ∧ Below w.heap.size w w' := by
  refine enter_args (args := [.slice A q c, .func (.func g) #[] cap]) (F := _) Tryz.func214 rfl Tryz.ntmps214 rfl rfl ?_
  intro Rb hRb hRn
  refine tx ?_
  refine sr 1 ?_
  refine sgs ?_
  refine tx ?_
  refine sr 1 ?_
  refine s1 (y_len_slice rfl rfl Tryz.underlying27) ?_
  refine sr 1 ?_
  refine sgo ?_
  refine T_block ?_
  refine lK1 (kf := [(4, 5), (8, 18)]) (kl := [(4, 5), (8, 18)]) (fun (i : Nat) => [(8, true, .int .i64 (i : Int))]) (fun (i : Nat) => []) (fun (i : Nat) => i ≤ q ∧ fndP p l 0 = fndP p (l.drop i) i) (fun (i : Nat) => q - i) 0 ?_ ?_ ?_ ?_
  · exact ⟨by omega, rfl⟩
  · exact ⟨rfl, trivial⟩
  · exact trivial
  rintro i ⟨hp1, hp2⟩
  refine tx ?_
  refine sr 1 ?_
  refine sgs ?_
  refine T_cond rfl ?_ ?_ <;> intro h9
  · try simp only [nrm] at h9
    obtain ⟨x, hx1, hx2⟩ := hl.at (i := i) (by omega)
    refine kgs ?_
    refine T_block ?_
    refine tx ?_
    refine sr 2 ?_
    refine sgx ?_
    refine sr 3 ?_
    refine s1 (y_indexAddr rfl rfl rfl Tryz.underlying27 sz100 (fun hg => hl.isSome (by omega)) (fun _ => by omega)) ?_
    refine s1 (y_loadT rfl rfl hl (fun _ => rfl) (fun _ => hx1) Tryz.underlying100 rfl sz100) ?_
    refine s1 (y_call rfl rfl rfl hcf (fun _ w hM => hA x (mem_at hx1) w hM.below)) ?_
    refine sgo ?_
    refine T_cond rfl ?_ ?_ <;> intro h16
    · skip
      refine tx ?_
      refine sr 2 ?_
      refine sgo ?_
      refine tr1 hRb fun w hM => ?_
      exact ⟨by rw [hp2, hx2, fndP, if_pos h16], hM.below⟩
    refine kgr ?_
    refine s1 (y_bin rfl rfl rfl (fun hg => b_add (by omega))) ?_
    refine sr 1 ?_
    refine S_nil (nK1 (kf := [(4, 5), (8, 18)]) (kl := [(4, 5), (8, 18)]) (i + 1) ?_ ?_ ?_ ?_)
    · omega
    · exact ⟨by omega, by rw [hp2, hx2, fndP, if_neg (by simp [h16])]⟩
    · exact ⟨rfl, trivial⟩
    · exact trivial
  try simp only [nrm] at h9
  refine egx ?_
  refine sr 1 ?_
  refine sgo ?_
  refine tr1 hRb fun w hM => ?_
  exact ⟨by rw [hp2, hl.end (by omega)]; rfl, hM.below⟩
theorem ContFF_any (A : Option Addr) (q c : Nat) (l : List Flt) (g : FuncId) (cap : Array Value) (p : Flt → Bool) (w : World) (hl : SlT Flt.enc 3 w A q l) (hq : q ≤ 4611686018427387904) (hcf : ∀ args w, (callFunc g args).run Tryz.prog w = .ok (.enter g args) w)
    (hA : ∀ x ∈ l, ∀ w', Below w.heap.size w w' → Calls Tryz.prog g (#[x.val] ++ cap) w' fun e w'' => e = .returned (.bool (p x)) ∧ Below w'.heap.size w' w'') :
    Calls Tryz.prog 145 #[.slice A q c, .func (.func g) #[] cap] w fun e w' => e = .returned (.bool (l.any p)) ∧ Below w.heap.size w w' := by
  rw [← fndP_any p l 0]
  refine enter_args (args := [.slice A q c, .func (.func g) #[] cap]) (F := _) Tryz.func145 rfl Tryz.ntmps145 rfl rfl ?_
  intro Rb hRb hRn
  refine tx ?_
  refine sr 1 ?_
  refine sgx ?_
  refine sr 2 ?_
  refine s1 (y_call rfl rfl rfl cf214 (fun _ w hM => IndexFF_any A q c l g cap p w (hl.below hM.below) hq hcf fun x hx w1 hb => hA x hx w1 (hM.below.trans (hb.mono hM.below.size)))) ?_
  refine sr 2 ?_
  refine sgo ?_
  refine tr1 hRb fun w hM => ?_
  exact ⟨rfl, hM.below⟩
theorem IndexFR_any (A : Option Addr) (q c : Nat) (l : List Frm) (g : FuncId) (cap : Array Value) (p : Frm → Bool) (w : World) (hl : SlT Frm.enc 6 w A q l) (hq : q ≤ 4611686018427387904) (hcf : ∀ args w, (callFunc g args).run Tryz.prog w = .ok (.enter g args) w)
    (hA : ∀ x ∈ l, ∀ w', Below w.heap.size w w' → Calls Tryz.prog g (#[x.val] ++ cap) w' fun e w'' => e = .returned (.bool (p x)) ∧ Below w'.heap.size w' w'') :
    Calls Tryz.prog 215 #[.slice A q c, .func (.func g) #[] cap] w fun e w' => e = .returned (.int .i64 (fndP p l 0)) ∧ Below w.heap.size w w' := by
  refine enter_args (args := [.slice A q c, .func (.func g) #[] cap]) (F := _) Tryz.func215 rfl Tryz.ntmps215 rfl rfl ?_
  intro Rb hRb hRn
  refine tx ?_
  refine sr 1 ?_
  refine sgs ?_
  refine tx ?_
  refine sr 1 ?_
  refine s1 (y_len_slice rfl rfl Tryz.underlying98) ?_
  refine sr 1 ?_
  refine sgo ?_
  refine T_block ?_
  refine lK1 (kf := [(4, 5), (8, 18)]) (kl := [(4, 5), (8, 18)]) (fun (i : Nat) => [(8, true, .int .i64 (i : Int))]) (fun (i : Nat) => []) (fun (i : Nat) => i ≤ q ∧ fndP p l 0 = fndP p (l.drop i) i) (fun (i : Nat) => q - i) 0 ?_ ?_ ?_ ?_
  · exact ⟨by omega, rfl⟩
  · exact ⟨rfl, trivial⟩
  · exact trivial
  rintro i ⟨hp1, hp2⟩
  refine tx ?_
  refine sr 1 ?_
  refine sgs ?_
  refine T_cond rfl ?_ ?_ <;> intro h9
  · try simp only [nrm] at h9
    obtain ⟨x, hx1, hx2⟩ := hl.at (i := i) (by omega)
    refine kgs ?_
    refine T_block ?_
    refine tx ?_
    refine sr 2 ?_
    refine sgx ?_
    refine sr 3 ?_
    refine s1 (y_indexAddr rfl rfl rfl Tryz.underlying98 sz105 (fun hg => hl.isSome (by omega)) (fun _ => by omega)) ?_
    refine s1 (y_loadT rfl rfl hl (fun _ => rfl) (fun _ => hx1) Tryz.underlying105 rfl sz105) ?_
    refine s1 (y_call rfl rfl rfl hcf (fun _ w hM => hA x (mem_at hx1) w hM.below)) ?_
    refine sgo ?_
    refine T_cond rfl ?_ ?_ <;> intro h16
    · skip
      refine tx ?_
      refine sr 2 ?_
      refine sgo ?_
      refine tr1 hRb fun w hM => ?_
      exact ⟨by rw [hp2, hx2, fndP, if_pos h16], hM.below⟩
    refine kgr ?_
    refine s1 (y_bin rfl rfl rfl (fun hg => b_add (by omega))) ?_
    refine sr 1 ?_
    refine S_nil (nK1 (kf := [(4, 5), (8, 18)]) (kl := [(4, 5), (8, 18)]) (i + 1) ?_ ?_ ?_ ?_)
    · omega
    · exact ⟨by omega, by rw [hp2, hx2, fndP, if_neg (by simp [h16])]⟩
    · exact ⟨rfl, trivial⟩
    · exact trivial
  try simp only [nrm] at h9
  refine egx ?_
  refine sr 1 ?_
  refine sgo ?_
  refine tr1 hRb fun w hM => ?_
  exact ⟨by rw [hp2, hl.end (by omega)]; rfl, hM.below⟩
theorem ContFR_any (A : Option Addr) (q c : Nat) (l : List Frm) (g : FuncId) (cap : Array Value) (p : Frm → Bool) (w : World) (hl : SlT Frm.enc 6 w A q l) (hq : q ≤ 4611686018427387904) (hcf : ∀ args w, (callFunc g args).run Tryz.prog w = .ok (.enter g args) w)
    (hA : ∀ x ∈ l, ∀ w', Below w.heap.size w w' → Calls Tryz.prog g (#[x.val] ++ cap) w' fun e w'' => e = .returned (.bool (p x)) ∧ Below w'.heap.size w' w'') :
    Calls Tryz.prog 148 #[.slice A q c, .func (.func g) #[] cap] w fun e w' => e = .returned (.bool (l.any p)) ∧ Below w.heap.size w w' := by
  rw [← fndP_any p l 0]
  refine enter_args (args := [.slice A q c, .func (.func g) #[] cap]) (F := _) Tryz.func148 rfl Tryz.ntmps148 rfl rfl ?_
  intro Rb hRb hRn
  refine tx ?_
  refine sr 1 ?_
  refine sgx ?_
  refine sr 2 ?_
  refine s1 (y_call rfl rfl rfl cf215 (fun _ w hM => IndexFR_any A q c l g cap p w (hl.below hM.below) hq hcf fun x hx w1 hb => hA x hx w1 (hM.below.trans (hb.mono hM.below.size)))) ?_
  refine sr 2 ?_
  refine sgo ?_
  refine tr1 hRb fun w hM => ?_
  exact ⟨rfl, hM.below⟩
theorem IndexFK_any (A : Option Addr) (q c : Nat) (l : List (Fn × SC)) (g : FuncId) (cap : Array Value) (p : (Fn × SC) → Bool) (w : World) (hl : SlT fnE 1 w A q l) (hq : q ≤ 4611686018427387904) (hcf : ∀ args w, (callFunc g args).run Tryz.prog w = .ok (.enter g args) w)
    (hA : ∀ x ∈ l, ∀ w', Below w.heap.size w w' → Calls Tryz.prog g (#[.func (.func x.1.g) #[] x.1.cap] ++ cap) w' fun e w'' => e = .returned (.bool (p x)) ∧ Below w'.heap.size w' w'') :
    Calls Tryz.prog 216 #[.slice A q c, .func (.func g) #[] cap] w fun e w' => e = .returned (.int .i64 (fndP p l 0)) ∧ Below w.heap.size w w' := by
  refine enter_args (args := [.slice A q c, .func (.func g) #[] cap]) (F := _) Tryz.func216 rfl Tryz.ntmps216 rfl rfl ?_
  intro Rb hRb hRn
  refine tx ?_
  refine sr 1 ?_
  refine sgs ?_
  refine tx ?_
  refine sr 1 ?_
  refine s1 (y_len_slice rfl rfl Tryz.underlying186) ?_
  refine sr 1 ?_
  refine sgo ?_
  refine T_block ?_
  refine lK1 (kf := [(4, 5), (8, 18)]) (kl := [(4, 5), (8, 18)]) (fun (i : Nat) => [(8, true, .int .i64 (i : Int))]) (fun (i : Nat) => []) (fun (i : Nat) => i ≤ q ∧ fndP p l 0 = fndP p (l.drop i) i) (fun (i : Nat) => q - i) 0 ?_ ?_ ?_ ?_
  · exact ⟨by omega, rfl⟩
  · exact ⟨rfl, trivial⟩
  · exact trivial
  rintro i ⟨hp1, hp2⟩
  refine tx ?_
  refine sr 1 ?_
  refine sgs ?_
  refine T_cond rfl ?_ ?_ <;> intro h9
  · try simp only [nrm] at h9
    obtain ⟨x, hx1, hx2⟩ := hl.at (i := i) (by omega)
    refine kgs ?_
    refine T_block ?_
    refine tx ?_
    refine sr 2 ?_
    refine sgx ?_
    refine sr 3 ?_
    refine s1 (y_indexAddr rfl rfl rfl Tryz.underlying186 sz32 (fun hg => hl.isSome (by omega)) (fun _ => by omega)) ?_
    refine s1 (y_loadT1 (val := (fun z : Fn × SC => Value.func (.func z.1.g) #[] z.1.cap)) rfl rfl hl (fun _ => hx1) Tryz.underlying32 rfl) ?_
    refine s1 (y_call rfl rfl rfl hcf (fun _ w hM => hA x (mem_at hx1) w hM.below)) ?_
    refine sgo ?_
    refine T_cond rfl ?_ ?_ <;> intro h16
    · skip
      refine tx ?_
      refine sr 2 ?_
      refine sgo ?_
      refine tr1 hRb fun w hM => ?_
      exact ⟨by rw [hp2, hx2, fndP, if_pos h16], hM.below⟩
    refine kgr ?_
    refine s1 (y_bin rfl rfl rfl (fun hg => b_add (by omega))) ?_
    refine sr 1 ?_
    refine S_nil (nK1 (kf := [(4, 5), (8, 18)]) (kl := [(4, 5), (8, 18)]) (i + 1) ?_ ?_ ?_ ?_)
    · omega
    · exact ⟨by omega, by rw [hp2, hx2, fndP, if_neg (by simp [h16])]⟩
    · exact ⟨rfl, trivial⟩
    · exact trivial
  try simp only [nrm] at h9
  refine egx ?_
  refine sr 1 ?_
  refine sgo ?_
  refine tr1 hRb fun w hM => ?_
  exact ⟨by rw [hp2, hl.end (by omega)]; rfl, hM.below⟩
theorem ContFK_any (A : Option Addr) (q c : Nat) (l : List (Fn × SC)) (g : FuncId) (cap : Array Value) (p : (Fn × SC) → Bool) (w : World) (hl : SlT fnE 1 w A q l) (hq : q ≤ 4611686018427387904) (hcf : ∀ args w, (callFunc g args).run Tryz.prog w = .ok (.enter g args) w)
    (hA : ∀ x ∈ l, ∀ w', Below w.heap.size w w' → Calls Tryz.prog g (#[.func (.func x.1.g) #[] x.1.cap] ++ cap) w' fun e w'' => e = .returned (.bool (p x)) ∧ Below w'.heap.size w' w'') :
    Calls Tryz.prog 152 #[.slice A q c, .func (.func g) #[] cap] w fun e w' => e = .returned (.bool (l.any p)) ∧ Below w.heap.size w w' := by
  rw [← fndP_any p l 0]
  refine enter_args (args := [.slice A q c, .func (.func g) #[] cap]) (F := _) Tryz.func152 rfl Tryz.ntmps152 rfl rfl ?_
  intro Rb hRb hRn
  refine tx ?_
  refine sr 1 ?_
  refine sgx ?_
  refine sr 2 ?_
  refine s1 (y_call rfl rfl rfl cf216 (fun _ w hM => IndexFK_any A q c l g cap p w (hl.below hM.below) hq hcf fun x hx w1 hb => hA x hx w1 (hM.below.trans (hb.mono hM.below.size)))) ?_
  refine sr 2 ?_
  refine sgo ?_
  refine tr1 hRb fun w hM => ?_
  exact ⟨rfl, hM.below⟩
theorem ContFF_ask {l : Sl Flt} {f : Fn} {p : Flt → Bool} {w : World} (hl : FltsOk w l) (hs : ∀ f ∈ l.l, FltS f) (hv : AskF Flt.val FltR f p w) :
    Calls Tryz.prog 145 #[.slice l.A l.q l.c, .func (.func f.g) #[] f.cap] w fun e w' => e = .returned (.bool (l.l.any p)) ∧ Below w.heap.size w w' :=
  ContFF_any l.A l.q l.c l.l f.g f.cap p w hl.ok.t hl.q hv.1 fun x hx w' hb => hv.2 w' hb x ⟨(hl.n x hx).below hb, hs x hx⟩
theorem ContFR_ask {l : Sl Frm} {f : Fn} {p : Frm → Bool} {w : World} (hl : FrmsOk w l) (hs : ∀ x ∈ l.l, x.f.length ≤ 2000 ∧ x.fi.length ≤ 2000) (hv : AskF Frm.val FrmR f p w) :
    Calls Tryz.prog 148 #[.slice l.A l.q l.c, .func (.func f.g) #[] f.cap] w fun e w' => e = .returned (.bool (l.l.any p)) ∧ Below w.heap.size w w' :=
  ContFR_any l.A l.q l.c l.l f.g f.cap p w hl.ok.t hl.q hv.1 fun x hx w' hb => hv.2 w' hb x (hs x hx)
end Go.Proofs.YtekbcbjimajnfaaGreatDoor
end
section
namespace Go.Proofs.YtekbcbjimajnfaaGreatDoor
set_option linter.unusedSimpArgs false
set_option linter.unusedVariables false
set_option maxRecDepth 20000
open Go.RowKit Go.Eng
abbrev ptF (b : Nat) : Value := .pointer (some ⟨b, 0, none⟩)
abbrev Cell1 (w : World) (b : Nat) (v : Value) : Prop := w.cell? ⟨b, 0, none⟩ = some v ∧ b < w.heap.size
theorem cell1_of {w : World} {b : Nat} {v : Value} (h : CellsIn b [v] w) : Cell1 w b v := ⟨h.1 0 v rfl, h.2⟩
/-- the greatest length of what is searched lies in memory -/
def MLen (w : World) : Prop := ∃ m, w.cell? ⟨2, 0, none⟩ = some (.int .i64 m) ∧ 2 < w.heap.size
theorem MLen.below {w w' : World} (h : MLen w) (hb : Below w.heap.size w w') : MLen w' := by
  obtain ⟨m, h1, h2⟩ := h
  exact ⟨m, cellK ⟨h1, h2⟩ hb⟩
theorem Contains2_any (s t : List UInt8) (hs : s.length ≤ 1000000000) (w : World) (hm : MLen w) :
    Calls Tryz.prog 166 #[str s, str t] w fun e w' => e = .returned (.bool (Lib.contains s t)) ∧ Below w.heap.size w w' := by
  obtain ⟨m, h1, h2⟩ := hm
  exact (Any.strings_Contains Tryz.lays144 ⟨s.toArray⟩ ⟨t.toArray⟩ m w (by rw [Lib.size_eq]; simp; omega) h1).mono fun e w' ⟨he, hw⟩ => ⟨by simpa using he, by rw [hw]; exact Below.refl _ _⟩
theorem fsmall_any (s : List UInt8) (hs : s.length ≤ 1000000000000) (w : World) :
    Calls Tryz.prog 164 #[str s] w fun e w' => e = .returned (str (s.map lowB)) ∧ Below w.heap.size w w' := by
  refine enter_args (args := [str s]) (F := _) Tryz.func164 rfl Tryz.ntmps164 rfl rfl ?_
  intro Rb hRb hRn
  refine tx ?_
  refine sr 1 ?_
  refine sgx ?_
  refine sr 1 ?_
  refine S_strBytesW 6 6 rfl rfl rfl rfl rfl Tryz.underlying9 Tryz.underlying220 Tryz.underlying5 ?_
  intro b6 c6
  refine sr 1 ?_
  refine sgs ?_
  refine tx ?_
  refine sr 1 ?_
  refine s1 (y_len_slice rfl rfl Tryz.underlying220) ?_
  refine sr 1 ?_
  refine sgo ?_
  refine T_block ?_
  refine lK1 (kf := [(4, 4), (9, 20)]) (kl := [(4, 4), (6, 6), (9, 20)]) (fun (i : Nat) => [(9, true, .int .i64 (i : Int))]) (fun (i : Nat) => [(6, .blk b6 (IsRw 5 (bytesV ((s.take i).map lowB ++ s.drop i))))]) (fun (i : Nat) => i ≤ s.length) (fun (i : Nat) => s.length - i) 0 ?_ ?_ ?_ ?_
  · omega
  · exact ⟨rfl, trivial⟩
  · exact ⟨by rw [List.take_zero, List.map_nil, List.nil_append, List.drop_zero]; rfl, trivial⟩
  rintro i hp1
  refine tx ?_
  refine sr 1 ?_
  refine sgs ?_
  refine T_cond rfl ?_ ?_ <;> intro h10
  · try simp only [nrm] at h10
    have hi : i < s.length := by omega
    refine kgs ?_
    refine T_block ?_
    refine tx ?_
    refine sr 2 ?_
    refine sgr ?_
    refine sr 4 ?_
    refine s1 (y_indexAddr rfl rfl rfl Tryz.underlying220 sz5 (fun _ => rfl) (fun _ => by omega)) ?_
    refine s1 (y_loadRw 6 rfl rfl rfl (fun _ => low_at (by omega)) Tryz.underlying5 rfl) ?_
    refine s1 (y_call rfl rfl rfl cf112 (fun _ w _ => lower_any _ (UInt8.toNat_lt _) w)) ?_
    refine s1 (y_indexAddr rfl rfl rfl Tryz.underlying220 sz5 (fun _ => rfl) (fun _ => by omega)) ?_
    refine S_storeRw 6 rfl rfl rfl rfl rfl rfl sz5 rfl rfl (by rw [bytesV_len, low_len]; omega) ?_
    rw [low_set (by omega)]
    refine sgr ?_
    refine s1 (y_bin rfl rfl rfl (fun hg => b_add (by omega))) ?_
    refine sr 1 ?_
    refine S_nil (nK1 (kf := [(4, 4), (9, 20)]) (kl := [(4, 4), (6, 6), (9, 20)]) (i + 1) ?_ ?_ ?_ ?_)
    · omega
    · omega
    · exact ⟨rfl, trivial⟩
    · exact ⟨rfl, trivial⟩
  try simp only [nrm] at h10
  rw [low_end (by omega)]
  refine egx ?_
  refine sr 1 ?_
  refine s1 (y_str_rw 6 (s.map lowB) rfl rfl rfl (by rw [List.length_map]) Tryz.underlying220 Tryz.underlying5 Tryz.underlying9) ?_
  refine sr 1 ?_
  refine sgo ?_
  refine tr1 hRb fun w hM => ?_
  exact ⟨rfl, hM.below⟩
/-! ### Of an event: a number between two -/
theorem nlv_any (e : Evt) (w : World) : Calls Tryz.prog 157 #[e.val] w fun en w' => en = .returned (.int .i64 (e.lv)) ∧ Below w.heap.size w w' := by
  refine enter_args (args := [.agg #[str e.id, .int .i64 e.at_, .int .i64 e.lv, .slice e.fa.A e.fa.q e.fa.c, .slice e.ta.A e.ta.q e.ta.c, .slice e.cr.A e.cr.q e.cr.c, str e.rel, str e.us, .int .i64 e.wt]]) (F := _) Tryz.func157 rfl Tryz.ntmps157 rfl rfl ?_
  intro Rb hRb hRn
  refine tx ?_
  refine S_box 1 1 rfl rfl rfl rfl rfl ?_
  intro b1
  refine sr 1 ?_
  refine sgx ?_
  refine s1 (yF fa31_2) ?_
  refine s1 (yL 1 Tryz.underlying3) ?_
  refine sr 1 ?_
  refine sgo ?_
  refine tr1 hRb fun w hM => ?_
  exact ⟨rfl, hM.below⟩
theorem nat_any (e : Evt) (w : World) : Calls Tryz.prog 158 #[e.val] w fun en w' => en = .returned (.int .i64 (e.at_)) ∧ Below w.heap.size w w' := by
  refine enter_args (args := [.agg #[str e.id, .int .i64 e.at_, .int .i64 e.lv, .slice e.fa.A e.fa.q e.fa.c, .slice e.ta.A e.ta.q e.ta.c, .slice e.cr.A e.cr.q e.cr.c, str e.rel, str e.us, .int .i64 e.wt]]) (F := _) Tryz.func158 rfl Tryz.ntmps158 rfl rfl ?_
  intro Rb hRb hRn
  refine tx ?_
  refine S_box 1 1 rfl rfl rfl rfl rfl ?_
  intro b1
  refine sr 1 ?_
  refine sgx ?_
  refine s1 (yF fa31_1) ?_
  refine s1 (yL 1 Tryz.underlying3) ?_
  refine sr 1 ?_
  refine sgo ?_
  refine tr1 hRb fun w hM => ?_
  exact ⟨rfl, hM.below⟩
theorem nwt_any (e : Evt) (w : World) : Calls Tryz.prog 159 #[e.val] w fun en w' => en = .returned (.int .i64 (e.wt)) ∧ Below w.heap.size w w' := by
  refine enter_args (args := [.agg #[str e.id, .int .i64 e.at_, .int .i64 e.lv, .slice e.fa.A e.fa.q e.fa.c, .slice e.ta.A e.ta.q e.ta.c, .slice e.cr.A e.cr.q e.cr.c, str e.rel, str e.us, .int .i64 e.wt]]) (F := _) Tryz.func159 rfl Tryz.ntmps159 rfl rfl ?_
  intro Rb hRb hRn
  refine tx ?_
  refine S_box 1 1 rfl rfl rfl rfl rfl ?_
  intro b1
  refine sr 1 ?_
  refine sgx ?_
  refine s1 (yF fa31_8) ?_
  refine s1 (yL 1 Tryz.underlying3) ?_
  refine sr 1 ?_
  refine sgo ?_
  refine tr1 hRb fun w hM => ?_
  exact ⟨rfl, hM.below⟩
theorem tnum_any (x : SC) (g : FuncId) (f : Evt → Int) (b2 b : Nat) (e : Evt) (w : World) (hcf : ∀ args w, (callFunc g args).run Tryz.prog w = .ok (.enter g args) w)
    (hg : ∀ w', Calls Tryz.prog g #[e.val] w' fun en w'' => en = .returned (.int .i64 (f e)) ∧ Below w'.heap.size w' w'') (h2 : Cell1 w b2 (.func (.func g) #[] #[])) (h : CellsAt w b x.enc) :
    Calls Tryz.prog 150 #[e.val, ptF b2, ptF b] w fun en w' => en = .returned (.bool (inB (f e) x.lo x.hi)) ∧ Below w.heap.size w w' := by
  refine enter_args (args := [.agg #[str e.id, .int .i64 e.at_, .int .i64 e.lv, .slice e.fa.A e.fa.q e.fa.c, .slice e.ta.A e.ta.q e.ta.c, .slice e.cr.A e.cr.q e.cr.c, str e.rel, str e.us, .int .i64 e.wt], ptF b2, ptF b]) (F := _) Tryz.func150 rfl Tryz.ntmps150 rfl rfl ?_
  intro Rb hRb hRn
  refine tx ?_
  refine S_box 3 3 rfl rfl rfl rfl rfl ?_
  intro b3
  refine sr 1 ?_
  refine sgs ?_
  refine T_draws (by kernel_rfl) (by kernel_rfl) ?_
  refine d1 (y_load_far rfl rfl h2.1 h2.2 Tryz.underlying184 rfl) ?_
  refine d1 (yA 3 rfl Tryz.underlying31 sz31) ?_
  refine d1 (y_call rfl rfl rfl hcf (fun _ w _ => hg w)) ?_
  refine d1 (yF fa36_2) ?_
  refine d1 (y_load_far rfl rfl (h.one (j := 2) rfl).1 (h.one (j := 2) (cs := x.enc) rfl).2 Tryz.underlying3 rfl) ?_
  refine d1 (yF fa36_3) ?_
  refine d1 (y_load_far rfl rfl (h.one (j := 3) rfl).1 (h.one (j := 3) (cs := x.enc) rfl).2 Tryz.underlying3 rfl) ?_
  refine d1 (y_call rfl rfl rfl cf55 (fun _ w _ => fout_any _ _ _ w)) ?_
  refine d1 (y_not rfl rfl) ?_
  refine d1 (y_assign rfl rfl) ?_
  refine dgo ?_
  refine tr1 hRb fun w hM => ?_
  exact ⟨by rw [Bool.not_not], hM.below⟩
theorem askNum {x : SC} {g : FuncId} {f : Evt → Int} {b2 b : Nat} {w : World} (hcf : ∀ args w, (callFunc g args).run Tryz.prog w = .ok (.enter g args) w)
    (hg : ∀ e w', Calls Tryz.prog g #[e.val] w' fun en w'' => en = .returned (.int .i64 (f e)) ∧ Below w'.heap.size w' w'') (h2 : Cell1 w b2 (.func (.func g) #[] #[])) (h : CellsAt w b x.enc) :
    AskF Evt.val EvR ⟨150, #[ptF b2, ptF b]⟩ (fun e => inB (f e) x.lo x.hi) w :=
  ⟨cf150, fun w' hb e _ => tnum_any x g f b2 b e w' hcf (hg e) (cellK h2 hb) (cells_to h hb)⟩
/-! ### Of an event: a tag, the release, the user -/
theorem ttag_any (x : SC) (b : Nat) (e : Evt) (w : World) (he : e.Ok w) (hs : EvS e) (ht : x.tx.length ≤ 200) (h : CellsAt w b x.enc) :
    Calls Tryz.prog 160 #[e.val, ptF b] w fun en w' => en = .returned (.bool ((tagV x.nm e.ta.l).2 && (decide (x.op = 8) || gm eqL x.tx (tagV x.nm e.ta.l).1))) ∧ Below w.heap.size w w' := by
  have htl := tagV_small (n := x.nm) hs.ta
  refine enter_args (args := [.agg #[str e.id, .int .i64 e.at_, .int .i64 e.lv, .slice e.fa.A e.fa.q e.fa.c, .slice e.ta.A e.ta.q e.ta.c, .slice e.cr.A e.cr.q e.cr.c, str e.rel, str e.us, .int .i64 e.wt], ptF b]) (F := _) Tryz.func160 rfl Tryz.ntmps160 rfl rfl ?_
  intro Rb hRb hRn
  refine tx ?_
  refine S_box 2 2 rfl rfl rfl rfl rfl ?_
  intro b2
  refine sr 1 ?_
  refine sgx ?_
  refine s1 (yA 2 rfl Tryz.underlying31 sz31) ?_
  refine s1 (yF fa36_4) ?_
  refine s1 (y_load_far rfl rfl (h.one (j := 4) rfl).1 (h.one (j := 4) (cs := x.enc) rfl).2 Tryz.underlying9 rfl) ?_
  refine s1 (y_call rfl rfl rfl cf106 (fun _ w hM => Tag_any e _ w (he.below hM.below))) ?_
  refine sr 5 ?_
  refine sgx ?_
  refine sr 2 ?_
  refine sg rfl (yF fa36_0) ?_
  refine sg rfl (y_load_far rfl rfl (h.one (j := 0) rfl).1 (h.one (j := 0) (cs := x.enc) rfl).2 Tryz.underlying3 rfl) ?_
  refine sg rfl (y_bin rfl rfl rfl (fun _ => b_eql)) ?_
  refine sg rfl (y_move rfl rfl) ?_
  refine sg rfl (yF fa36_5) ?_
  refine sg rfl (y_load_far rfl rfl (h.one (j := 5) rfl).1 (h.one (j := 5) (cs := x.enc) rfl).2 Tryz.underlying9 rfl) ?_
  refine sg rfl (y_move rfl rfl) ?_
  refine sg rfl (y_call rfl rfl rfl cf77 (fun _ w _ => Fits_any _ _ w (by omega) (by omega))) ?_
  refine sg rfl (y_or rfl rfl rfl) ?_
  refine s1 (y_and rfl rfl rfl) ?_
  refine sr 1 ?_
  refine sgo ?_
  refine tr1 hRb fun w hM => ?_
  exact ⟨rfl, hM.below⟩
theorem askTag {x : SC} {b : Nat} {w : World} (ht : x.tx.length ≤ 200) (h : CellsAt w b x.enc) :
    AskF Evt.val EvR ⟨160, #[ptF b]⟩ (fun e => (tagV x.nm e.ta.l).2 && (decide (x.op = 8) || gm eqL x.tx (tagV x.nm e.ta.l).1)) w :=
  ⟨cf160, fun w' hb e he => ttag_any x b e w' he.1 he.2 ht (cells_to h hb)⟩
theorem trel_any (x : SC) (b : Nat) (e : Evt) (w : World) (hs : EvS e) (ht : x.tx.length ≤ 200) (h : CellsAt w b x.enc) :
    Calls Tryz.prog 161 #[e.val, ptF b] w fun en w' => en = .returned (.bool (!decide (e.rel = []) && gm eqL x.tx e.rel)) ∧ Below w.heap.size w w' := by
  have hl := hs.rel
  refine enter_args (args := [.agg #[str e.id, .int .i64 e.at_, .int .i64 e.lv, .slice e.fa.A e.fa.q e.fa.c, .slice e.ta.A e.ta.q e.ta.c, .slice e.cr.A e.cr.q e.cr.c, str e.rel, str e.us, .int .i64 e.wt], ptF b]) (F := _) Tryz.func161 rfl Tryz.ntmps161 rfl rfl ?_
  intro Rb hRb hRn
  refine tx ?_
  refine S_box 2 2 rfl rfl rfl rfl rfl ?_
  intro b2
  refine sr 1 ?_
  refine sgx ?_
  refine s1 (yF fa31_6) ?_
  refine s1 (yL 2 Tryz.underlying9) ?_
  refine s1 (y_bin rfl rfl rfl (fun _ => b_neqs)) ?_
  refine sr 1 ?_
  refine sg rfl (yF fa36_5) ?_
  refine sg rfl (y_load_far rfl rfl (h.one (j := 5) rfl).1 (h.one (j := 5) (cs := x.enc) rfl).2 Tryz.underlying9 rfl) ?_
  refine sg rfl (yF fa31_6) ?_
  refine sg rfl (yL 2 Tryz.underlying9) ?_
  refine sg rfl (y_call rfl rfl rfl cf77 (fun _ w _ => Fits_any _ _ w (by omega) (by omega))) ?_
  refine s1 (y_and rfl rfl rfl) ?_
  refine sr 1 ?_
  refine sgo ?_
  refine tr1 hRb fun w hM => ?_
  exact ⟨rfl, hM.below⟩
theorem askrel {x : SC} {b : Nat} {w : World} (ht : x.tx.length ≤ 200) (h : CellsAt w b x.enc) :
    AskF Evt.val EvR ⟨161, #[ptF b]⟩ (fun e => !decide (e.rel = []) && gm eqL x.tx e.rel) w :=
  ⟨cf161, fun w' hb e he => trel_any x b e w' he.2 ht (cells_to h hb)⟩
theorem tus_any (x : SC) (b : Nat) (e : Evt) (w : World) (hs : EvS e) (ht : x.tx.length ≤ 200) (h : CellsAt w b x.enc) :
    Calls Tryz.prog 162 #[e.val, ptF b] w fun en w' => en = .returned (.bool (!decide (e.us = []) && gm eqL x.tx e.us)) ∧ Below w.heap.size w w' := by
  have hl := hs.us
  refine enter_args (args := [.agg #[str e.id, .int .i64 e.at_, .int .i64 e.lv, .slice e.fa.A e.fa.q e.fa.c, .slice e.ta.A e.ta.q e.ta.c, .slice e.cr.A e.cr.q e.cr.c, str e.rel, str e.us, .int .i64 e.wt], ptF b]) (F := _) Tryz.func162 rfl Tryz.ntmps162 rfl rfl ?_
  intro Rb hRb hRn
  refine tx ?_
  refine S_box 2 2 rfl rfl rfl rfl rfl ?_
  intro b2
  refine sr 1 ?_
  refine sgx ?_
  refine s1 (yF fa31_7) ?_
  refine s1 (yL 2 Tryz.underlying9) ?_
  refine s1 (y_bin rfl rfl rfl (fun _ => b_neqs)) ?_
  refine sr 1 ?_
  refine sg rfl (yF fa36_5) ?_
  refine sg rfl (y_load_far rfl rfl (h.one (j := 5) rfl).1 (h.one (j := 5) (cs := x.enc) rfl).2 Tryz.underlying9 rfl) ?_
  refine sg rfl (yF fa31_7) ?_
  refine sg rfl (yL 2 Tryz.underlying9) ?_
  refine sg rfl (y_call rfl rfl rfl cf77 (fun _ w _ => Fits_any _ _ w (by omega) (by omega))) ?_
  refine s1 (y_and rfl rfl rfl) ?_
  refine sr 1 ?_
  refine sgo ?_
  refine tr1 hRb fun w hM => ?_
  exact ⟨rfl, hM.below⟩
theorem askus {x : SC} {b : Nat} {w : World} (ht : x.tx.length ≤ 200) (h : CellsAt w b x.enc) :
    AskF Evt.val EvR ⟨162, #[ptF b]⟩ (fun e => !decide (e.us = []) && gm eqL x.tx e.us) w :=
  ⟨cf162, fun w' hb e he => tus_any x b e w' he.2 ht (cells_to h hb)⟩
/-! ### Of a fault, of a frame -/
theorem tkind_any (x : SC) (b : Nat) (f : Flt) (w : World) (hs : FltS f) (ht : x.tx.length ≤ 200) (h : CellsAt w b x.enc) :
    Calls Tryz.prog 163 #[f.val, ptF b] w fun en w' => en = .returned (.bool (gm eqL x.tx f.k)) ∧ Below w.heap.size w w' := by
  have hl := hs.k
  refine enter_args (args := [.agg #[str f.k, str f.t, .slice f.fr.A f.fr.q f.fr.c], ptF b]) (F := _) Tryz.func163 rfl Tryz.ntmps163 rfl rfl ?_
  intro Rb hRb hRn
  refine tx ?_
  refine S_box 2 2 rfl rfl rfl rfl rfl ?_
  intro b2
  refine sr 1 ?_
  refine sgx ?_
  refine s1 (yF fa36_5) ?_
  refine s1 (y_load_far rfl rfl (h.one (j := 5) rfl).1 (h.one (j := 5) (cs := x.enc) rfl).2 Tryz.underlying9 rfl) ?_
  refine s1 (yF fa100_0) ?_
  refine s1 (yL 2 Tryz.underlying9) ?_
  refine s1 (y_call rfl rfl rfl cf77 (fun _ w _ => Fits_any _ _ w (by omega) (by omega))) ?_
  refine sr 1 ?_
  refine sgo ?_
  refine tr1 hRb fun w hM => ?_
  exact ⟨rfl, hM.below⟩
theorem askKind {x : SC} {b : Nat} {w : World} (ht : x.tx.length ≤ 200) (h : CellsAt w b x.enc) : AskF Flt.val FltR ⟨163, #[ptF b]⟩ (fun f => gm eqL x.tx f.k) w :=
  ⟨cf163, fun w' hb f hf => tkind_any x b f w' hf.2 ht (cells_to h hb)⟩
theorem tsays_any (t : List UInt8) (b : Nat) (f : Flt) (w : World) (hs : FltS f) (hm : MLen w) (h : Cell1 w b (str t)) :
    Calls Tryz.prog 165 #[f.val, ptF b] w fun en w' => en = .returned (.bool (Lib.contains (f.t.map lowB) t)) ∧ Below w.heap.size w w' := by
  have hl := hs.t
  refine enter_args (args := [.agg #[str f.k, str f.t, .slice f.fr.A f.fr.q f.fr.c], ptF b]) (F := _) Tryz.func165 rfl Tryz.ntmps165 rfl rfl ?_
  intro Rb hRb hRn
  refine tx ?_
  refine S_box 2 2 rfl rfl rfl rfl rfl ?_
  intro b2
  refine sr 1 ?_
  refine sgs ?_
  refine T_draws (by kernel_rfl) (by kernel_rfl) ?_
  refine d1 (yF fa100_1) ?_
  refine d1 (yL 2 Tryz.underlying9) ?_
  refine d1 (y_call rfl rfl rfl cf164 (fun _ w _ => fsmall_any _ (by omega) w)) ?_
  refine d1 (y_load_far rfl rfl h.1 h.2 Tryz.underlying9 rfl) ?_
  refine d1 (y_call rfl rfl rfl cf166 (fun _ w hM => Contains2_any _ _ (by rw [List.length_map]; omega) w (hm.below hM.below))) ?_
  refine d1 (y_assign rfl rfl) ?_
  refine dgo ?_
  refine tr1 hRb fun w hM => ?_
  exact ⟨rfl, hM.below⟩
theorem askSays {t : List UInt8} {b : Nat} {w : World} (hm : MLen w) (h : Cell1 w b (str t)) : AskF Flt.val FltR ⟨165, #[ptF b]⟩ (fun f => Lib.contains (f.t.map lowB) t) w :=
  ⟨cf165, fun w' hb f hf => tsays_any t b f w' hf.2 (hm.below hb) (cellK h hb)⟩
theorem tFunc_any (x : SC) (b : Nat) (y : Frm) (w : World) (hs : y.f.length ≤ 2000 ∧ y.fi.length ≤ 2000) (ht : x.tx.length ≤ 200) (h : CellsAt w b x.enc) :
    Calls Tryz.prog 167 #[y.val, ptF b] w fun en w' => en = .returned (.bool (gm eqL x.tx y.f)) ∧ Below w.heap.size w w' := by
  refine enter_args (args := [.agg #[str y.m, str y.f, str y.fi, .int .i64 y.ln, .int .i64 y.ad, .bool y.own], ptF b]) (F := _) Tryz.func167 rfl Tryz.ntmps167 rfl rfl ?_
  intro Rb hRb hRn
  refine tx ?_
  refine S_box 2 2 rfl rfl rfl rfl rfl ?_
  intro b2
  refine sr 1 ?_
  refine sgx ?_
  refine s1 (yF fa36_5) ?_
  refine s1 (y_load_far rfl rfl (h.one (j := 5) rfl).1 (h.one (j := 5) (cs := x.enc) rfl).2 Tryz.underlying9 rfl) ?_
  refine s1 (yF fa105_1) ?_
  refine s1 (yL 2 Tryz.underlying9) ?_
  refine s1 (y_call rfl rfl rfl cf77 (fun _ w _ => Fits_any _ _ w (by omega) (by omega))) ?_
  refine sr 1 ?_
  refine sgo ?_
  refine tr1 hRb fun w hM => ?_
  exact ⟨rfl, hM.below⟩
theorem askFunc {x : SC} {b : Nat} {w : World} (ht : x.tx.length ≤ 200) (h : CellsAt w b x.enc) : AskF Frm.val FrmR ⟨167, #[ptF b]⟩ (fun y => gm eqL x.tx y.f) w :=
  ⟨cf167, fun w' hb y hy => tFunc_any x b y w' hy ht (cells_to h hb)⟩
theorem tFile_any (x : SC) (b : Nat) (y : Frm) (w : World) (hs : y.f.length ≤ 2000 ∧ y.fi.length ≤ 2000) (ht : x.tx.length ≤ 200) (h : CellsAt w b x.enc) :
    Calls Tryz.prog 168 #[y.val, ptF b] w fun en w' => en = .returned (.bool (gm eqL x.tx y.fi)) ∧ Below w.heap.size w w' := by
  refine enter_args (args := [.agg #[str y.m, str y.f, str y.fi, .int .i64 y.ln, .int .i64 y.ad, .bool y.own], ptF b]) (F := _) Tryz.func168 rfl Tryz.ntmps168 rfl rfl ?_
  intro Rb hRb hRn
  refine tx ?_
  refine S_box 2 2 rfl rfl rfl rfl rfl ?_
  intro b2
  refine sr 1 ?_
  refine sgx ?_
  refine s1 (yF fa36_5) ?_
  refine s1 (y_load_far rfl rfl (h.one (j := 5) rfl).1 (h.one (j := 5) (cs := x.enc) rfl).2 Tryz.underlying9 rfl) ?_
  refine s1 (yF fa105_2) ?_
  refine s1 (yL 2 Tryz.underlying9) ?_
  refine s1 (y_call rfl rfl rfl cf77 (fun _ w _ => Fits_any _ _ w (by omega) (by omega))) ?_
  refine sr 1 ?_
  refine sgo ?_
  refine tr1 hRb fun w hM => ?_
  exact ⟨rfl, hM.below⟩
theorem askFile {x : SC} {b : Nat} {w : World} (ht : x.tx.length ≤ 200) (h : CellsAt w b x.enc) : AskF Frm.val FrmR ⟨168, #[ptF b]⟩ (fun y => gm eqL x.tx y.fi) w :=
  ⟨cf168, fun w' hb y hy => tFile_any x b y w' hy ht (cells_to h hb)⟩
/-! ### Any fault, any frame -/
theorem tfault_any (v : Fn) (p : Flt → Bool) (b : Nat) (e : Evt) (w : World) (he : e.Ok w) (hs : EvS e) (h : Cell1 w b v.v) (hv : AskF Flt.val FltR v p w) :
    Calls Tryz.prog 144 #[e.val, ptF b] w fun en w' => en = .returned (.bool (e.fa.l.any p)) ∧ Below w.heap.size w w' := by
  refine enter_args (args := [.agg #[str e.id, .int .i64 e.at_, .int .i64 e.lv, .slice e.fa.A e.fa.q e.fa.c, .slice e.ta.A e.ta.q e.ta.c, .slice e.cr.A e.cr.q e.cr.c, str e.rel, str e.us, .int .i64 e.wt], ptF b]) (F := _) Tryz.func144 rfl Tryz.ntmps144 rfl rfl ?_
  intro Rb hRb hRn
  refine tx ?_
  refine S_box 2 2 rfl rfl rfl rfl rfl ?_
  intro b2
  refine sr 1 ?_
  refine sgx ?_
  refine s1 (yF fa31_3) ?_
  refine s1 (yL 2 Tryz.underlying27) ?_
  refine s1 (y_load_far rfl rfl h.1 h.2 Tryz.underlying178 rfl) ?_
  refine s1 (y_call rfl rfl rfl cf145 (fun _ w hM => ContFF_ask (he.fa.below hM.below) hs.fa (hv.below hM.below))) ?_
  refine sr 1 ?_
  refine sgo ?_
  refine tr1 hRb fun w hM => ?_
  exact ⟨rfl, hM.below⟩
theorem askFault {v : Fn} {p : Flt → Bool} {b : Nat} {w : World} (h : Cell1 w b v.v) (hv : AskF Flt.val FltR v p w) : AskF Evt.val EvR ⟨144, #[ptF b]⟩ (fun e => e.fa.l.any p) w :=
  ⟨cf144, fun w' hb e he => tfault_any v p b e w' he.1 he.2 (cellK h hb) (hv.below hb)⟩
theorem tframe_any (v : Fn) (p : Frm → Bool) (b : Nat) (f : Flt) (w : World) (hf : FltOk w f) (hs : FltS f) (h : Cell1 w b v.v) (hv : AskF Frm.val FrmR v p w) :
    Calls Tryz.prog 147 #[f.val, ptF b] w fun en w' => en = .returned (.bool (f.fr.l.any p)) ∧ Below w.heap.size w w' := by
  refine enter_args (args := [.agg #[str f.k, str f.t, .slice f.fr.A f.fr.q f.fr.c], ptF b]) (F := _) Tryz.func147 rfl Tryz.ntmps147 rfl rfl ?_
  intro Rb hRb hRn
  refine tx ?_
  refine S_box 2 2 rfl rfl rfl rfl rfl ?_
  intro b2
  refine sr 1 ?_
  refine sgx ?_
  refine s1 (yF fa100_2) ?_
  refine s1 (yL 2 Tryz.underlying98) ?_
  refine s1 (y_load_far rfl rfl h.1 h.2 Tryz.underlying181 rfl) ?_
  refine s1 (y_call rfl rfl rfl cf148 (fun _ w hM => ContFR_ask (hf.fr.below hM.below) hs.fr (hv.below hM.below))) ?_
  refine sr 1 ?_
  refine sgo ?_
  refine tr1 hRb fun w hM => ?_
  exact ⟨rfl, hM.below⟩
theorem askFrame {v : Fn} {p : Frm → Bool} {b : Nat} {w : World} (h : Cell1 w b v.v) (hv : AskF Frm.val FrmR v p w) : AskF Flt.val FltR ⟨147, #[ptF b]⟩ (fun f => f.fr.l.any p) w :=
  ⟨cf147, fun w' hb f hf => tframe_any v p b f w' hf.1 hf.2 (cellK h hb) (hv.below hb)⟩
/-! ### And, Or, Not -/
/-- kids as function values: each asks what its condition holds for -/
def KidsAt (b : Nat) (ks : List SC) (w : World) : Prop := ∃ (A : Option Addr) (q c : Nat) (Z : List (Fn × SC)), Cell1 w b (.slice A q c) ∧ SlT fnE 1 w A q Z ∧ q ≤ 4611686018427387904 ∧ Z.map Prod.snd = ks ∧ ∀ z ∈ Z, AskF Evt.val EvR z.1 (fun e => hoX e z.2) w
theorem tno_any (e : Evt) (g : FuncId) (cap : Array Value) (p : Bool) (be : Nat) (w : World) (hcf : ∀ args w, (callFunc g args).run Tryz.prog w = .ok (.enter g args) w) (h : CellsAt w be e.enc)
    (hg : ∀ w', Below w.heap.size w w' → Calls Tryz.prog g (#[e.val] ++ cap) w' fun en w'' => en = .returned (.bool p) ∧ Below w'.heap.size w' w'') :
    Calls Tryz.prog 153 #[.func (.func g) #[] cap, ptF be] w fun en w' => en = .returned (.bool (!p)) ∧ Below w.heap.size w w' := by
  refine enter_args (args := [.func (.func g) #[] cap, ptF be]) (F := _) Tryz.func153 rfl Tryz.ntmps153 rfl rfl ?_
  intro Rb hRb hRn
  refine tx ?_
  refine sr 1 ?_
  refine sgx ?_
  refine sr 1 ?_
  refine s1 (y_loadA_far rfl rfl h.1 h.2 Tryz.underlying31 rfl sz31) ?_
  refine s1 (y_call rfl rfl rfl hcf (fun _ w hM => hg w hM.below)) ?_
  refine sr 2 ?_
  refine sgo ?_
  refine tr1 hRb fun w hM => ?_
  exact ⟨rfl, hM.below⟩
theorem tis_any (e : Evt) (g : FuncId) (cap : Array Value) (p : Bool) (be : Nat) (w : World) (hcf : ∀ args w, (callFunc g args).run Tryz.prog w = .ok (.enter g args) w) (h : CellsAt w be e.enc)
    (hg : ∀ w', Below w.heap.size w w' → Calls Tryz.prog g (#[e.val] ++ cap) w' fun en w'' => en = .returned (.bool p) ∧ Below w'.heap.size w' w'') :
    Calls Tryz.prog 155 #[.func (.func g) #[] cap, ptF be] w fun en w' => en = .returned (.bool (p)) ∧ Below w.heap.size w w' := by
  refine enter_args (args := [.func (.func g) #[] cap, ptF be]) (F := _) Tryz.func155 rfl Tryz.ntmps155 rfl rfl ?_
  intro Rb hRb hRn
  refine tx ?_
  refine sr 1 ?_
  refine sgx ?_
  refine sr 1 ?_
  refine s1 (y_loadA_far rfl rfl h.1 h.2 Tryz.underlying31 rfl sz31) ?_
  refine s1 (y_call rfl rfl rfl hcf (fun _ w hM => hg w hM.below)) ?_
  refine sr 1 ?_
  refine sgo ?_
  refine tr1 hRb fun w hM => ?_
  exact ⟨rfl, hM.below⟩
theorem tAnd_any (e : Evt) (b : Nat) (A : Option Addr) (q c : Nat) (Z : List (Fn × SC)) (w : World) (he : EvR w e) (h : Cell1 w b (.slice A q c)) (hl : SlT fnE 1 w A q Z) (hq : q ≤ 4611686018427387904) (hz : ∀ z ∈ Z, AskF Evt.val EvR z.1 (fun e => hoX e z.2) w) :
    Calls Tryz.prog 151 #[e.val, ptF b] w fun en w' => en = .returned (.bool (Z.all fun z => hoX e z.2)) ∧ Below w.heap.size w w' := by
  refine enter_args (args := [.agg #[str e.id, .int .i64 e.at_, .int .i64 e.lv, .slice e.fa.A e.fa.q e.fa.c, .slice e.ta.A e.ta.q e.ta.c, .slice e.cr.A e.cr.q e.cr.c, str e.rel, str e.us, .int .i64 e.wt], ptF b]) (F := _) Tryz.func151 rfl Tryz.ntmps151 rfl rfl ?_
  intro Rb hRb hRn
  refine tx ?_
  refine S_box 2 2 rfl rfl rfl rfl rfl ?_
  intro b2
  refine sr 1 ?_
  refine sgx ?_
  refine s1 (y_load_far rfl rfl h.1 h.2 Tryz.underlying186 rfl) ?_
  refine s1 (y_makeFunc rfl rfl rfl rfl rfl) ?_
  refine s1 (y_call rfl rfl rfl cf152 (fun _ w1 hM => ContFK_any A q c Z 153 _ (fun z => !hoX e z.2) w1 (hl.below hM.below) hq cf153 (fun z hzm w2 hb2 => have ha := (hz z hzm).below (hM.below.trans (hb2.mono hM.below.size)); tno_any e z.1.g z.1.cap _ b2 w2 ha.1 (cells_below (hM.box_cells 2 rfl) hb2) (fun w3 hb3 => ha.2 w3 hb3 e ((he.below (hM.below.trans (hb2.mono hM.below.size))).below hb3))))) ?_
  refine sr 2 ?_
  refine sgo ?_
  refine tr1 hRb fun w hM => ?_
  exact ⟨by rw [show (Z.all fun z => hoX e z.2) = !(Z.any fun z => !hoX e z.2) from by rw [List.not_any_eq_all_not]; simp], hM.below⟩
theorem askAnd {b : Nat} {ks : List SC} {w : World} (h : KidsAt b ks w) : AskF Evt.val EvR ⟨151, #[ptF b]⟩ (fun e => ks.all (hoX e)) w := by
  obtain ⟨A, q, c, Z, h1, h2, h3, rfl, h5⟩ := h
  have ha : AskF Evt.val EvR ⟨151, #[ptF b]⟩ (fun e => Z.all fun z => hoX e z.2) w := ⟨cf151, fun w' hb e he => tAnd_any e b A q c Z w' he (cellK h1 hb) (h2.below hb) h3 fun z hz => (h5 z hz).below hb⟩
  exact ha.ext fun e => by rw [List.all_map]; rfl
theorem tOr_any (e : Evt) (b : Nat) (A : Option Addr) (q c : Nat) (Z : List (Fn × SC)) (w : World) (he : EvR w e) (h : Cell1 w b (.slice A q c)) (hl : SlT fnE 1 w A q Z) (hq : q ≤ 4611686018427387904) (hz : ∀ z ∈ Z, AskF Evt.val EvR z.1 (fun e => hoX e z.2) w) :
    Calls Tryz.prog 154 #[e.val, ptF b] w fun en w' => en = .returned (.bool (Z.any fun z => hoX e z.2)) ∧ Below w.heap.size w w' := by
  refine enter_args (args := [.agg #[str e.id, .int .i64 e.at_, .int .i64 e.lv, .slice e.fa.A e.fa.q e.fa.c, .slice e.ta.A e.ta.q e.ta.c, .slice e.cr.A e.cr.q e.cr.c, str e.rel, str e.us, .int .i64 e.wt], ptF b]) (F := _) Tryz.func154 rfl Tryz.ntmps154 rfl rfl ?_
  intro Rb hRb hRn
  refine tx ?_
  refine S_box 2 2 rfl rfl rfl rfl rfl ?_
  intro b2
  refine sr 1 ?_
  refine sgx ?_
  refine s1 (y_load_far rfl rfl h.1 h.2 Tryz.underlying186 rfl) ?_
  refine s1 (y_makeFunc rfl rfl rfl rfl rfl) ?_
  refine s1 (y_call rfl rfl rfl cf152 (fun _ w1 hM => ContFK_any A q c Z 155 _ (fun z => hoX e z.2) w1 (hl.below hM.below) hq cf155 (fun z hzm w2 hb2 => have ha := (hz z hzm).below (hM.below.trans (hb2.mono hM.below.size)); tis_any e z.1.g z.1.cap _ b2 w2 ha.1 (cells_below (hM.box_cells 2 rfl) hb2) (fun w3 hb3 => ha.2 w3 hb3 e ((he.below (hM.below.trans (hb2.mono hM.below.size))).below hb3))))) ?_
  refine sr 1 ?_
  refine sgo ?_
  refine tr1 hRb fun w hM => ?_
  exact ⟨rfl, hM.below⟩
theorem askOr {b : Nat} {ks : List SC} {w : World} (h : KidsAt b ks w) : AskF Evt.val EvR ⟨154, #[ptF b]⟩ (fun e => ks.any (hoX e)) w := by
  obtain ⟨A, q, c, Z, h1, h2, h3, rfl, h5⟩ := h
  have ha : AskF Evt.val EvR ⟨154, #[ptF b]⟩ (fun e => Z.any fun z => hoX e z.2) w := ⟨cf154, fun w' hb e he => tOr_any e b A q c Z w' he (cellK h1 hb) (h2.below hb) h3 fun z hz => (h5 z hz).below hb⟩
  exact ha.ext fun e => by rw [List.any_map]; rfl
theorem tNot_any (e : Evt) (b : Nat) (A : Option Addr) (q c : Nat) (z : Fn × SC) (w : World) (he : EvR w e) (h : Cell1 w b (.slice A q c)) (hl : SlT fnE 1 w A q [z]) (hq : q = 1) (hz : AskF Evt.val EvR z.1 (fun e => hoX e z.2) w) :
    Calls Tryz.prog 156 #[e.val, ptF b] w fun en w' => en = .returned (.bool (!hoX e z.2)) ∧ Below w.heap.size w w' := by
  refine enter_args (args := [.agg #[str e.id, .int .i64 e.at_, .int .i64 e.lv, .slice e.fa.A e.fa.q e.fa.c, .slice e.ta.A e.ta.q e.ta.c, .slice e.cr.A e.cr.q e.cr.c, str e.rel, str e.us, .int .i64 e.wt], ptF b]) (F := _) Tryz.func156 rfl Tryz.ntmps156 rfl rfl ?_
  intro Rb hRb hRn
  refine tx ?_
  refine S_box 2 2 rfl rfl rfl rfl rfl ?_
  intro b2
  refine sr 1 ?_
  refine sgs ?_
  refine T_draws (by kernel_rfl) (by kernel_rfl) ?_
  refine d1 (y_load_far rfl rfl h.1 h.2 Tryz.underlying186 rfl) ?_
  refine d1 (y_indexAddrI (j := 0) rfl rfl rfl (fun _ => rfl) Tryz.underlying186 sz32 (fun hg => hl.isSome (by omega)) (fun _ => by omega)) ?_
  refine d1 (y_loadT1 (val := (fun z : Fn × SC => Value.func (.func z.1.g) #[] z.1.cap)) rfl rfl hl (fun _ => rfl) Tryz.underlying32 rfl) ?_
  refine d1 (yA 2 rfl Tryz.underlying31 sz31) ?_
  refine d1 (y_call rfl rfl rfl hz.1 (fun _ w hM => hz.2 w hM.below e (he.below hM.below))) ?_
  refine d1 (y_not rfl rfl) ?_
  refine d1 (y_assign rfl rfl) ?_
  refine dgo ?_
  refine tr1 hRb fun w hM => ?_
  exact ⟨rfl, hM.below⟩
theorem askNot {b : Nat} {k : SC} {w : World} (h : KidsAt b [k] w) : AskF Evt.val EvR ⟨156, #[ptF b]⟩ (fun e => !hoX e k) w := by
  obtain ⟨A, q, c, Z, h1, h2, h3, h4, h5⟩ := h
  match Z, h4 with
  | [(v, k')], h4 =>
    obtain rfl : k' = k := by simpa using h4
    have hq : q = 1 := by have := h2.len; simpa using this.symm
    exact ⟨cf156, fun w' hb e he => tNot_any e b A q c (v, k') w' he (cellK h1 hb) (h2.below hb) hq ((h5 _ (List.mem_singleton.2 rfl)).below hb)⟩
end Go.Proofs.YtekbcbjimajnfaaGreatDoor
end
