/- Part 1, merged by a program. Words, names and ids: what the program and the reference say of them. No condition beyond lengths that a machine can hold. Frames: CheckFrame, checkFrames and what the reference has in their places. Conditions: lengths that a machine can hold. Events in plain lists: faults, tags, crumbs, and their faults' codes. No program in sight. Events are checked: the program's Check and the reference's EventFault. Conditions: those of each theorem. Events are compared, and what is asked of one: Same, Tag, Levels, and the reference's. Conditions: those of each theorem. Parts of a string that are found, and what is put in their place: a mask. Plain lists; no program in sight. What a mask leaves: no row that is long enough, no address; and what is masked once more has none either. Plain lists; no program in sight. Addresses in a string: what is found, and that none is left behind a mask. Plain lists; no program in sight. Clones of faults, tags and crumbs; frames put together, and cut. Conditions: those of each theorem. slices.IndexFunc and DeleteFunc of parts of a string. Conditions: those of each theorem. What a rule finds in a string: rows of digits, of digits of base 16, addresses. Conditions: those of each theorem. A house's setup in plain lists, and its fault. No program in sight. strings.Builder: what its methods do to a builder that the caller has made. Conditions: those of each theorem. What the rules of what is cleared find and put. Conditions: those of each theorem. The digest of a string: Sum, FormatUint in base 16 and Repeat of a nought. Conditions: the table of trailing noughts holds Go's numbers. strings.Repeat of a star: a builder that grows at once and is read while it is written. Conditions: those of each theorem. Addresses in a string, walked. Conditions: those of each theorem. A rule of what is cleared, made ready: what it finds, what it puts. Conditions: those of each theorem. One string is cleared: what is found in it is masked. Conditions: those of the theorem. Patterns with stars: what they match, the search that goes back to the last star, and the table of all beginnings. Plain lists; no program in sight. Conditions as trees: how deep, how many, whether they are right, equal, plain, and for what they hold. Plain trees; no program in sight. Events opened: from the form's reading to 'Evt.Ok'. No condition. Conditions as they lie in memory, and conditions among the arguments opened. No condition. Conditions: too deep, too many, and whether each is right. Conditions: those of each theorem. Conditions: how many within one another, and the text of one. Conditions: those of each theorem. Conditions: whether each is right, and CheckCond. Conditions: those of each theorem. find.Fits: the greedy search. Condition: the lengths are bounded. event.Matches: a name fits a pattern. Condition: the lengths are bounded. event.Copy: the faults, their frames, the tags and the crumbs are new. Conditions: those of the theorem. What a rule makes of an event, in plain lists. No program in sight. A rule is done with an event of our own. Conditions: those of the theorem. event.Copy, the rows of the frames said one by one: they lie apart. Conditions: those of the theorem. -/
import Derived.Test.YtekbcbjimajnfaaGreatDoorZip
import Derived.Test.YtekbcbjimajnfaaGreatDoorLem
import Derived.Test.YtekbcbjimajnfaaGreatDoorShelf
import Derived.Shelf.Strings.SlTrimAscii
import Derived.Test.YtekbcbjimajnfaaGreatDoorApp
import Derived.Test.YtekbcbjimajnfaaGreatDoorOpsB
import Derived.Test.YtekbcbjimajnfaaGreatDoorMany
import Derived.Test.YtekbcbjimajnfaaGreatDoorClr
import Derived.Test.YtekbcbjimajnfaaGreatDoorSwp
import Derived.Test.YtekbcbjimajnfaaGreatDoorGrd
import Derived.Test.YtekbcbjimajnfaaGreatDoorBld
import Derived.Test.YtekbcbjimajnfaaGreatDoorPermg
import Derived.Test.YtekbcbjimajnfaaGreatDoorArr
import Derived.Test.YtekbcbjimajnfaaGreatDoorFz
import Derived.Test.YtekbcbjimajnfaaGreatDoorTree
import Derived.Test.YtekbcbjimajnfaaGreatDoorOpen
import Derived.Test.YtekbcbjimajnfaaGreatDoorOpnN
import Derived.Test.YtekbcbjimajnfaaGreatDoorRows
import Derived.Test.YtekbcbjimajnfaaGreatDoorTail
import Derived.Test.YtekbcbjimajnfaaGreatDoorCopy
import Derived.Test.YtekbcbjimajnfaaGreatDoorCnv
import Derived.Test.YtekbcbjimajnfaaGreatDoorUnb
section
namespace Go.Proofs.YtekbcbjimajnfaaGreatDoor
set_option linter.unusedSimpArgs false
set_option linter.unusedVariables false
set_option maxRecDepth 20000
open Go.RowKit Go.Eng
theorem out_any (n lo hi : Int) (w : World) :
    Calls Tryz.prog 42 #[.int .i64 n, .int .i64 lo, .int .i64 hi] w fun e w' => e = .returned (.bool (decide (n < lo) || decide (hi < n))) ∧ Below w.heap.size w w' := by
  refine enter_args (args := [.int .i64 n, .int .i64 lo, .int .i64 hi]) (F := _) Tryz.func42 rfl Tryz.ntmps42 rfl rfl ?_
  intro Rb hRb hRn
  refine tx ?_
  refine sr 1 ?_
  refine sgx ?_
  refine sr 4 ?_
  refine sg rfl (y_move rfl rfl) ?_
  refine sg rfl (y_move rfl rfl) ?_
  refine sg rfl (y_bin rfl rfl rfl (fun _ => b_gtr)) ?_
  refine s1 (y_or rfl rfl rfl) ?_
  refine sr 1 ?_
  refine sgo ?_
  refine tr1 hRb fun w hM => ?_
  exact ⟨rfl, hM.below⟩
theorem IndexByte_any (s : List UInt8) (c : UInt8) (w : World) :
    Calls Tryz.prog 206 #[str s, .int .u8 (c.toNat : Int)] w fun e w' => e = .returned (.int .i64 (Lib.indexByte s c)) ∧ Below w.heap.size w w' := by
  refine (Tryz.strings_IndexByte ⟨s.toArray⟩ (c.toNat : Int) w).mono fun e w' ⟨h1, h2⟩ => ⟨?_, h2 ▸ Below.refl _ _⟩
  rw [h1]; simp
def hexs : List UInt8 := [48, 49, 50, 51, 52, 53, 54, 55, 56, 57, 97, 98, 99, 100, 101, 102]
theorem TrimHex_any (s : List UInt8) (hs : s.length ≤ 1000) (w : World) :
    Calls Tryz.prog 84 #[str s, str hexs] w fun e w' => e = .returned (str (Lib.trimS s hexs)) ∧ Below w.heap.size w w' :=
  Any.strings_Trim_laid Tryz.lays160 (by kernel_rfl) ⟨s.toArray⟩ ⟨hexs.toArray⟩ w (by rw [Lib.size_eq]; simp; omega) (by decide) (ascii_of_all (by decide))

/-- 16 digits of base 16 -/
def idOk (s : List UInt8) : Bool := decide ((s.length : Int) = 16) && decide (Lib.trimS s hexs = [])
theorem digits16_any (s : List UInt8) (w : World) :
    Calls Tryz.prog 82 #[str s] w fun e w' => e = .returned (.bool (idOk s)) ∧ Below w.heap.size w w' := by
  refine enter_args (args := [str s]) (F := _) Tryz.func82 rfl Tryz.ntmps82 rfl rfl ?_
  intro Rb hRb hRn
  refine tx ?_
  refine sr 1 ?_
  refine sgx ?_
  refine sr 1 ?_
  refine s1 (y_len_str rfl rfl Tryz.underlying9) ?_
  refine sr 2 ?_
  refine sg rfl (y_move rfl rfl) ?_
  refine sg rfl (y_call rfl rfl rfl cf84 (fun hg w _ => TrimHex_any s (by simp only [Bool.true_and, Bool.and_eq_true, beq_iff_eq, decide_eq_true_eq, decide_eq_false_iff_not, Int.not_lt, Int.not_le] at hg; omega) w)) ?_
  refine sg rfl (y_bin rfl rfl rfl (fun _ => b_eqls)) ?_
  refine s1 (y_and rfl rfl rfl) ?_
  refine sr 1 ?_
  refine sgo ?_
  refine tr1 hRb fun w hM => ?_
  exact ⟨rfl, hM.below⟩

/-- visible bytes alone, none of some others -/
def byteBad (wo : List UInt8) (c : UInt8) : Bool := decide ((c.toNat : Int) < 33) || decide ((126 : Int) < (c.toNat : Int)) || wo.contains c
def wordOk (wo s : List UInt8) : Bool := !(s.any (byteBad wo))
theorem wordOk_bad {wo : List UInt8} {c : UInt8} {r : List UInt8} (h : byteBad wo c = true) : wordOk wo (c :: r) = false := by simp [wordOk, h]
theorem wordOk_next {wo : List UInt8} {c : UInt8} {r : List UInt8} (h : byteBad wo c = false) : wordOk wo (c :: r) = wordOk wo r := by simp [wordOk, h]
theorem isWord_any (s wo : List UInt8) (hs : s.length ≤ 4611686018427387904) (w : World) :
    Calls Tryz.prog 211 #[str s, str wo] w fun e w' => e = .returned (.bool (wordOk wo s)) ∧ Below w.heap.size w w' := by
  refine enter_args (args := [str s, str wo]) (F := _) Tryz.func211 rfl Tryz.ntmps211 rfl rfl ?_
  intro Rb hRb hRn
  refine tx ?_
  refine sr 1 ?_
  refine sgs ?_
  refine tx ?_
  refine sr 1 ?_
  refine s1 (y_len_str rfl rfl Tryz.underlying9) ?_
  refine sr 1 ?_
  refine sgo ?_
  refine T_block ?_
  refine lK1 (kf := [(4, 5), (8, 29)]) (kl := [(4, 5), (8, 29)]) (fun (i : Nat) => [(8, true, .int .i64 (i : Int))]) (fun (i : Nat) => []) (fun (i : Nat) => i ≤ s.length ∧ wordOk wo s = wordOk wo (s.drop i)) (fun (i : Nat) => s.length - i) 0 ?_ ?_ ?_ ?_
  · exact ⟨by omega, rfl⟩
  · exact ⟨rfl, trivial⟩
  · exact trivial
  rintro i ⟨hp1, hp2⟩
  refine tx ?_
  refine sr 1 ?_
  refine sgs ?_
  refine T_cond rfl ?_ ?_ <;> intro h9
  · try simp only [nrm] at h9
    refine kgs ?_
    refine T_block ?_
    refine tx ?_
    refine sr 2 ?_
    refine sgx ?_
    refine sr 2 ?_
    refine s1 (y_index_str rfl rfl rfl Tryz.underlying9 (fun _ => by omega)) ?_
    refine sr 2 ?_
    refine sg rfl (y_move rfl rfl) ?_
    refine sg rfl (y_move rfl rfl) ?_
    refine sg rfl (y_index_str rfl rfl rfl Tryz.underlying9 (fun hg => by simp only [Bool.true_and, Bool.and_eq_true, beq_iff_eq, decide_eq_true_eq, decide_eq_false_iff_not, Int.not_lt, Int.not_le] at hg; omega)) ?_
    refine sg rfl (y_bin rfl rfl rfl (fun _ => b_gtr)) ?_
    refine s1 (y_or rfl rfl rfl) ?_
    refine sr 1 ?_
    refine sg rfl (y_move rfl rfl) ?_
    refine sg rfl (y_move rfl rfl) ?_
    refine sg rfl (y_move rfl rfl) ?_
    refine sg rfl (y_index_str rfl rfl rfl Tryz.underlying9 (fun hg => by simp only [Bool.true_and, Bool.and_eq_true, beq_iff_eq, decide_eq_true_eq, decide_eq_false_iff_not, Int.not_lt, Int.not_le] at hg; omega)) ?_
    refine sg rfl (y_call rfl rfl rfl cf206 (fun _ w _ => IndexByte_any _ _ w)) ?_
    refine sg rfl (y_as (v' := .bool (wo.contains (s.getD i 0))) (by rw [Lib.contains_iff_indexByte]) (y_bin rfl rfl rfl (fun _ => b_geq))) ?_
    refine s1 (y_as (v' := .bool (byteBad wo (s.getD i 0))) (by exact rfl) (y_or rfl rfl rfl)) ?_
    refine sgo ?_
    refine T_cond rfl ?_ ?_ <;> intro h28
    · skip
      refine tx ?_
      refine sr 1 ?_
      refine sgo ?_
      refine tr1 hRb fun w hM => ?_
      exact ⟨by rw [hp2, drop_str (by omega), wordOk_bad h28], hM.below⟩
    refine kgr ?_
    refine s1 (y_bin rfl rfl rfl (fun hg => b_add (by omega))) ?_
    refine sr 1 ?_
    refine S_nil (nK1 (kf := [(4, 5), (8, 29)]) (kl := [(4, 5), (8, 29)]) (i + 1) ?_ ?_ ?_ ?_)
    · omega
    · exact ⟨by omega, by rw [hp2, drop_str (by omega), wordOk_next h28]⟩
    · exact ⟨rfl, trivial⟩
    · exact trivial
  try simp only [nrm] at h9
  refine egx ?_
  refine sr 1 ?_
  refine sgo ?_
  refine tr1 hRb fun w hM => ?_
  exact ⟨by rw [hp2, List.drop_eq_nil_of_le (by omega)]; rfl, hM.below⟩
end Go.Proofs.YtekbcbjimajnfaaGreatDoor
end
section
namespace Go.Proofs.YtekbcbjimajnfaaGreatDoor
set_option linter.unusedSimpArgs false
set_option linter.unusedVariables false
set_option maxRecDepth 20000
open Go.RowKit Go.Eng
abbrev marks : List UInt8 := [40, 41, 58, 44]
/-- the fault of three words of a frame -/
def wordsNo (m f fi : List UInt8) : Int :=
  if (decide ((200 : Int) < (m.length : Int)) || decide ((200 : Int) < (f.length : Int)) || decide ((200 : Int) < (fi.length : Int))) = true then 4
  else if (!(wordOk marks m) || !(wordOk marks f) || !(wordOk marks fi)) = true then 9
  else if f = [] then 1 else 0
theorem if_t {α : Type} {c : Bool} {a b : α} (h : c = true) : (if c = true then a else b) = a := if_pos h
theorem if_f {α : Type} {c : Bool} {a b : α} (h : c = false) : (if c = true then a else b) = b := if_neg (by simp [h])
structure Frm where
  m : List UInt8
  f : List UInt8
  fi : List UInt8
  ln : Int
  ad : Int
  own : Bool
def Frm.enc (x : Frm) : List Value := [str x.m, str x.f, str x.fi, .int .i64 x.ln, .int .i64 x.ad, .bool x.own]
def Frm.val (x : Frm) : Value := .agg x.enc.toArray
/-- the fault of a frame -/
def frmNo (x : Frm) : Int :=
  if wordsNo x.m x.f x.fi ≠ 0 then wordsNo x.m x.f x.fi
  else if (decide (x.ln < 0) || decide (9999999 < x.ln) || (decide (x.ad < -1) || decide (281474976710655 < x.ad))) = true then 2
  else if x.ln ≠ 0 ∧ x.fi = [] then 1 else 0
theorem frmNo_words {x : Frm} {k : Int} (h : wordsNo x.m x.f x.fi = k) (hk : k ≠ 0) : frmNo x = k := by unfold frmNo; rw [h, if_pos hk]
theorem frmNo_rest {x : Frm} (h : wordsNo x.m x.f x.fi = 0) : frmNo x = if (decide (x.ln < 0) || decide (9999999 < x.ln) || (decide (x.ad < -1) || decide (281474976710655 < x.ad))) = true then 2
  else if x.ln ≠ 0 ∧ x.fi = [] then 1 else 0 := by unfold frmNo; rw [h, if_neg (by simp)]
theorem soutside_any (n lo hi : Int) (w : World) :
    Calls Tryz.prog 240 #[.int .i64 n, .int .i64 lo, .int .i64 hi] w fun e w' => e = .returned (.bool (decide (n < lo) || decide (hi < n))) ∧ Below w.heap.size w w' := by
  refine enter_args (args := [.int .i64 n, .int .i64 lo, .int .i64 hi]) (F := _) Tryz.func240 rfl Tryz.ntmps240 rfl rfl ?_
  intro Rb hRb hRn
  refine tx ?_
  refine sr 1 ?_
  refine sgx ?_
  refine sr 4 ?_
  refine sg rfl (y_move rfl rfl) ?_
  refine sg rfl (y_move rfl rfl) ?_
  refine sg rfl (y_bin rfl rfl rfl (fun _ => b_gtr)) ?_
  refine s1 (y_or rfl rfl rfl) ?_
  refine sr 1 ?_
  refine sgo ?_
  refine tr1 hRb fun w hM => ?_
  exact ⟨rfl, hM.below⟩
theorem CheckFrame_any (x : Frm) (hl1 : x.m.length ≤ 4611686018427387904) (hl2 : x.f.length ≤ 4611686018427387904) (hl3 : x.fi.length ≤ 4611686018427387904) (w : World) :
    Calls Tryz.prog 231 #[x.val] w fun e w' => e = .returned (.int .i64 (frmNo x)) ∧ Below w.heap.size w w' := by
  obtain ⟨m, f, fi, ln, ad, own⟩ := x
  simp only at hl1 hl2 hl3
  refine enter_args (args := [.agg #[str m, str f, str fi, .int .i64 ln, .int .i64 ad, .bool own]]) (F := _) Tryz.func231 rfl Tryz.ntmps231 rfl rfl ?_
  intro Rb hRb hRn
  refine tx ?_
  refine S_box 1 1 rfl rfl rfl rfl rfl ?_
  intro b1
  refine sr 1 ?_
  refine sgs ?_
  refine T_block ?_
  refine tx ?_
  refine s1 (yF fa105_0) ?_
  refine s1 (yL 1 Tryz.underlying9) ?_
  refine s1 (y_len_str rfl rfl Tryz.underlying9) ?_
  refine sr 2 ?_
  refine sg rfl (yF fa105_1) ?_
  refine sg rfl (yL 1 Tryz.underlying9) ?_
  refine sg rfl (y_len_str rfl rfl Tryz.underlying9) ?_
  refine sg rfl (y_bin rfl rfl rfl (fun _ => b_gtr)) ?_
  refine s1 (y_or rfl rfl rfl) ?_
  refine sr 1 ?_
  refine sg rfl (yF fa105_2) ?_
  refine sg rfl (yL 1 Tryz.underlying9) ?_
  refine sg rfl (y_len_str rfl rfl Tryz.underlying9) ?_
  refine sg rfl (y_bin rfl rfl rfl (fun _ => b_gtr)) ?_
  refine s1 (y_or rfl rfl rfl) ?_
  refine sr 1 ?_
  refine sgo ?_
  refine T_cond rfl ?_ ?_ <;> intro h3
  · skip
    refine tx ?_
    refine sr 1 ?_
    refine sgo ?_
    refine tr1 hRb fun w hM => ?_
    exact ⟨by rw [frmNo_words (x := ⟨m, f, fi, ln, ad, own⟩) (if_t h3) (by decide)], hM.below⟩
  refine tx ?_
  refine s1 (yF fa105_0) ?_
  refine s1 (yL 1 Tryz.underlying9) ?_
  refine s1 (y_call rfl rfl rfl cf211 (fun hg w _ => isWord_any _ _ (by first | omega | (have := hsz; omega)) w)) ?_
  refine sr 2 ?_
  refine sg rfl (yF fa105_1) ?_
  refine sg rfl (yL 1 Tryz.underlying9) ?_
  refine sg rfl (y_call rfl rfl rfl cf211 (fun hg w _ => isWord_any _ _ (by first | omega | (have := hsz; omega)) w)) ?_
  refine sg rfl (y_not rfl rfl) ?_
  refine s1 (y_or rfl rfl rfl) ?_
  refine sr 1 ?_
  refine sg rfl (yF fa105_2) ?_
  refine sg rfl (yL 1 Tryz.underlying9) ?_
  refine sg rfl (y_call rfl rfl rfl cf211 (fun hg w _ => isWord_any _ _ (by first | omega | (have := hsz; omega)) w)) ?_
  refine sg rfl (y_not rfl rfl) ?_
  refine s1 (y_or rfl rfl rfl) ?_
  refine sr 1 ?_
  refine sgo ?_
  refine T_cond rfl ?_ ?_ <;> intro h20
  · skip
    refine tx ?_
    refine sr 1 ?_
    refine sgo ?_
    refine tr1 hRb fun w hM => ?_
    exact ⟨by rw [frmNo_words (x := ⟨m, f, fi, ln, ad, own⟩) ((if_f h3).trans (if_t h20)) (by decide)], hM.below⟩
  refine tx ?_
  refine s1 (yF fa105_1) ?_
  refine s1 (yL 1 Tryz.underlying9) ?_
  refine s1 (y_bin rfl rfl rfl (fun _ => b_eqls)) ?_
  refine sr 1 ?_
  refine sgo ?_
  refine T_cond rfl ?_ ?_ <;> intro h37
  · skip
    refine tx ?_
    refine sr 1 ?_
    refine sgo ?_
    refine tr1 hRb fun w hM => ?_
    exact ⟨by rw [frmNo_words (x := ⟨m, f, fi, ln, ad, own⟩) ((if_f h3).trans ((if_f h20).trans (if_pos (by simpa using h37)))) (by decide)], hM.below⟩
  refine tx ?_
  refine s1 (yF fa105_3) ?_
  refine s1 (yL 1 Tryz.underlying3) ?_
  refine s1 (y_call rfl rfl rfl cf240 (fun _ w _ => soutside_any _ _ _ w)) ?_
  refine sr 1 ?_
  refine sg rfl (yF fa105_4) ?_
  refine sg rfl (yL 1 Tryz.underlying3) ?_
  refine sg rfl (y_call rfl rfl rfl cf240 (fun _ w _ => soutside_any _ _ _ w)) ?_
  refine s1 (y_or rfl rfl rfl) ?_
  refine sr 1 ?_
  refine sgo ?_
  refine T_cond rfl ?_ ?_ <;> intro h41
  · skip
    refine tx ?_
    refine sr 1 ?_
    refine sgo ?_
    refine tr1 hRb fun w hM => ?_
    exact ⟨by rw [frmNo_rest (x := ⟨m, f, fi, ln, ad, own⟩) ((if_f h3).trans ((if_f h20).trans (if_neg (by simpa using h37)))), if_t h41], hM.below⟩
  refine tx ?_
  refine s1 (yF fa105_3) ?_
  refine s1 (yL 1 Tryz.underlying3) ?_
  refine sr 2 ?_
  refine sg rfl (yF fa105_2) ?_
  refine sg rfl (yL 1 Tryz.underlying9) ?_
  refine sg rfl (y_bin rfl rfl rfl (fun _ => b_eqls)) ?_
  refine s1 (y_and rfl rfl rfl) ?_
  refine sr 1 ?_
  refine sgo ?_
  refine T_cond rfl ?_ ?_ <;> intro h50
  · skip
    refine tx ?_
    refine sr 1 ?_
    refine sgo ?_
    refine tr1 hRb fun w hM => ?_
    exact ⟨by rw [frmNo_rest (x := ⟨m, f, fi, ln, ad, own⟩) ((if_f h3).trans ((if_f h20).trans (if_neg (by simpa using h37)))), if_f h41, if_pos (by simpa using h50)], hM.below⟩
  refine kgx ?_
  refine sr 1 ?_
  refine sgo ?_
  refine tr1 hRb fun w hM => ?_
  exact ⟨by rw [frmNo_rest (x := ⟨m, f, fi, ln, ad, own⟩) ((if_f h3).trans ((if_f h20).trans (if_neg (by simpa using h37)))), if_f h41, if_neg (by simpa using h50)], hM.below⟩

/-! ### The reference's -/
def bigW (s : List UInt8) : Bool := decide ((200 : Int) < (s.length : Int))
def badW (s : List UInt8) : Bool := !(wordOk marks s)
theorem wordsNo_any (m f fi : List UInt8) : wordsNo m f fi = if [m, f, fi].any bigW = true then 4 else if [m, f, fi].any badW = true then 9 else if f = [] then 1 else 0 := by
  simp only [wordsNo, List.any_cons, List.any_nil, Bool.or_false, bigW, badW, Bool.or_assoc]
theorem three {i : Nat} (m f fi : List UInt8) (h : i < 3) : [str m, str f, str fi][i]? = some (str ([m, f, fi].getD i [])) := by
  match i, h with
  | 0, _ => rfl
  | 1, _ => rfl
  | 2, _ => rfl
theorem three_drop {i : Nat} (m f fi : List UInt8) (h : i < 3) : [m, f, fi].drop i = [m, f, fi].getD i [] :: [m, f, fi].drop (i + 1) := by
  match i, h with
  | 0, _ => rfl
  | 1, _ => rfl
  | 2, _ => rfl
theorem three_len {k : Nat} {m f fi : List UInt8} (i : Nat) (h1 : m.length ≤ k) (h2 : f.length ≤ k) (h3 : fi.length ≤ k) : ([m, f, fi].getD i []).length ≤ k := by
  match i with
  | 0 => exact h1
  | 1 => exact h2
  | 2 => exact h3
  | _ + 3 => exact Nat.zero_le _
theorem any_t {α : Type} {p : α → Bool} {a : α} {r : List α} (h : p a = true) : (a :: r).any p = true := by simp [h]
theorem any_f {α : Type} {p : α → Bool} {a : α} {r : List α} (h : p a = false) : (a :: r).any p = r.any p := by simp [h]
theorem badW_t {s : List UInt8} (h : wordOk marks s = false) : badW s = true := by simp [badW, h]
theorem badW_f {s : List UInt8} (h : wordOk marks s = true) : badW s = false := by simp [badW, h]
theorem frameFault_any (m f fi : List UInt8) (hl1 : m.length ≤ 4611686018427387904) (hl2 : f.length ≤ 4611686018427387904) (hl3 : fi.length ≤ 4611686018427387904) (w : World) :
    Calls Tryz.prog 125 #[str m, str f, str fi] w fun e w' => e = .returned (.int .i64 (wordsNo m f fi)) ∧ Below w.heap.size w w' := by
  rw [wordsNo_any]
  refine enter_args (args := [str m, str f, str fi]) (F := _) Tryz.func125 rfl Tryz.ntmps125 rfl rfl ?_
  intro Rb hRb hRn
  refine tx ?_
  refine sr 1 ?_
  refine sgs ?_
  refine tx ?_
  refine sr 3 ?_
  refine S_buildSlice 15 15 rfl rfl rfl rfl rfl Tryz.underlying49 inf9 rfl (by decide) (by decide) rfl rfl (by decide) rfl (_) rfl ?_
  intro b15
  refine s1 (y_len_slice rfl rfl Tryz.underlying49) ?_
  refine sr 1 ?_
  refine sgo ?_
  refine T_block ?_
  refine lK1 (kf := [(6, 6), (8, 8), (17, 24)]) (kl := [(6, 6), (8, 8), (17, 24)]) (fun (i : Nat) => [(17, true, .int .i64 (i : Int))]) (fun (i : Nat) => []) (fun (i : Nat) => i ≤ 3 ∧ [m, f, fi].any bigW = ([m, f, fi].drop i).any bigW) (fun (i : Nat) => 3 - i) 0 ?_ ?_ ?_ ?_
  · exact ⟨by omega, rfl⟩
  · exact ⟨rfl, trivial⟩
  · exact trivial
  rintro i ⟨hp1, hp2⟩
  refine tx ?_
  refine sr 1 ?_
  refine sgs ?_
  refine T_cond rfl ?_ ?_ <;> intro h18
  · try simp only [nrm] at h18
    refine kgs ?_
    refine T_block ?_
    refine tx ?_
    refine s1 (y_indexOwn 15 rfl rfl rfl rfl Tryz.underlying49 sz9 (fun _ => by omega)) ?_
    refine s1 (y_load_own 15 rfl rfl rfl (fun _ => by omega) (fun _ => three m f fi (by omega)) Tryz.underlying9 rfl) ?_
    refine sr 1 ?_
    refine sgx ?_
    refine sr 1 ?_
    refine s1 (y_len_str rfl rfl Tryz.underlying9) ?_
    refine s1 (y_as (v' := .bool (bigW ([m, f, fi].getD i []))) (by exact rfl) (y_bin rfl rfl rfl (fun _ => b_gtr))) ?_
    refine sgo ?_
    refine T_cond rfl ?_ ?_ <;> intro h23
    · skip
      refine tx ?_
      refine sr 1 ?_
      refine sgo ?_
      refine tr1 hRb fun w hM => ?_
      exact ⟨by rw [if_t (by rw [hp2, three_drop _ _ _ (by omega), any_t h23])], hM.below⟩
    refine kgr ?_
    refine s1 (y_bin rfl rfl rfl (fun hg => b_add (by omega))) ?_
    refine sr 1 ?_
    refine S_nil (nK1 (kf := [(6, 6), (8, 8), (17, 24)]) (kl := [(6, 6), (8, 8), (17, 24)]) (i + 1) ?_ ?_ ?_ ?_)
    · omega
    · exact ⟨by omega, by rw [hp2, three_drop _ _ _ (by omega), any_f h23]⟩
    · exact ⟨rfl, trivial⟩
    · exact trivial
  try simp only [nrm] at h18
  refine egs ?_
  refine tx ?_
  refine sr 3 ?_
  refine S_buildSlice 28 28 rfl rfl rfl rfl rfl Tryz.underlying49 inf9 rfl (by decide) (by decide) rfl rfl (by decide) rfl (_) rfl ?_
  intro b28
  refine s1 (y_len_slice rfl rfl Tryz.underlying49) ?_
  refine sr 1 ?_
  refine sgo ?_
  refine T_block ?_
  refine lK1 (kf := [(6, 6), (10, 11), (30, 57)]) (kl := [(6, 6), (10, 11), (30, 57)]) (fun (i : Nat) => [(30, true, .int .i64 (i : Int))]) (fun (i : Nat) => []) (fun (i : Nat) => i ≤ 3 ∧ [m, f, fi].any badW = ([m, f, fi].drop i).any badW) (fun (i : Nat) => 3 - i) 0 ?_ ?_ ?_ ?_
  · exact ⟨by omega, rfl⟩
  · exact ⟨rfl, trivial⟩
  · exact trivial
  rintro i ⟨hq1, hq2⟩
  refine tx ?_
  refine sr 1 ?_
  refine sgs ?_
  refine T_cond rfl ?_ ?_ <;> intro h31
  · try simp only [nrm] at h31
    refine kgs ?_
    refine T_block ?_
    refine tx ?_
    refine s1 (y_indexOwn 28 rfl rfl rfl rfl Tryz.underlying49 sz9 (fun _ => by omega)) ?_
    refine s1 (y_load_own 28 rfl rfl rfl (fun _ => by omega) (fun _ => three m f fi (by omega)) Tryz.underlying9 rfl) ?_
    refine sr 1 ?_
    refine sgx ?_
    refine sr 1 ?_
    refine s1 (y_len_str rfl rfl Tryz.underlying9) ?_
    refine sr 1 ?_
    refine sgo ?_
    refine T_block ?_
    refine lK1 (kf := [(6, 6), (11, 11), (36, 56)]) (kl := [(6, 6), (11, 11), (36, 56)]) (fun (k : Nat) => [(36, true, .int .i64 (k : Int))]) (fun (k : Nat) => []) (fun (k : Nat) => k ≤ ([m, f, fi].getD i []).length ∧ wordOk marks ([m, f, fi].getD i []) = wordOk marks (([m, f, fi].getD i []).drop k)) (fun (k : Nat) => ([m, f, fi].getD i []).length - k) 0 ?_ ?_ ?_ ?_
    · exact ⟨by omega, rfl⟩
    · exact ⟨rfl, trivial⟩
    · exact trivial
    rintro k ⟨hr1, hr2⟩
    have hl4 := three_len i hl1 hl2 hl3
    refine tx ?_
    refine sr 1 ?_
    refine sgs ?_
    refine T_cond rfl ?_ ?_ <;> intro h37
    · try simp only [nrm] at h37
      refine kgs ?_
      refine T_block ?_
      refine tx ?_
      refine sr 2 ?_
      refine sgx ?_
      refine sr 2 ?_
      refine s1 (y_index_str rfl rfl rfl Tryz.underlying9 (fun _ => by omega)) ?_
      refine sr 2 ?_
      refine sg rfl (y_move rfl rfl) ?_
      refine sg rfl (y_move rfl rfl) ?_
      refine sg rfl (y_index_str rfl rfl rfl Tryz.underlying9 (fun hg => by simp only [Bool.true_and, Bool.and_eq_true, beq_iff_eq, decide_eq_true_eq, decide_eq_false_iff_not, Int.not_lt, Int.not_le] at hg; omega)) ?_
      refine sg rfl (y_bin rfl rfl rfl (fun _ => b_gtr)) ?_
      refine s1 (y_or rfl rfl rfl) ?_
      refine sr 1 ?_
      refine sg rfl (y_move rfl rfl) ?_
      refine sg rfl (y_move rfl rfl) ?_
      refine sg rfl (y_index_str rfl rfl rfl Tryz.underlying9 (fun hg => by simp only [Bool.true_and, Bool.and_eq_true, beq_iff_eq, decide_eq_true_eq, decide_eq_false_iff_not, Int.not_lt, Int.not_le] at hg; omega)) ?_
      refine sg rfl (y_call rfl rfl rfl cf206 (fun _ w _ => IndexByte_any _ _ w)) ?_
      refine sg rfl (y_as (v' := .bool (marks.contains (([m, f, fi].getD i []).getD k 0))) (by rw [Lib.contains_iff_indexByte]) (y_bin rfl rfl rfl (fun _ => b_geq))) ?_
      refine s1 (y_as (v' := .bool (byteBad marks (([m, f, fi].getD i []).getD k 0))) (by exact rfl) (y_or rfl rfl rfl)) ?_
      refine sgo ?_
      refine T_cond rfl ?_ ?_ <;> intro h55
      · skip
        refine tx ?_
        refine sr 1 ?_
        refine sgo ?_
        refine tr1 hRb fun w hM => ?_
        exact ⟨by rw [if_f (by rw [hp2, List.drop_eq_nil_of_le (by simp; omega)]; rfl), if_t (by rw [hq2, three_drop _ _ _ (by omega), any_t (badW_t (by rw [hr2, drop_str (by omega), wordOk_bad h55]))])], hM.below⟩
      refine kgr ?_
      refine s1 (y_bin rfl rfl rfl (fun hg => b_add (by omega))) ?_
      refine sr 1 ?_
      refine S_nil (nK1 (kf := [(6, 6), (11, 11), (36, 56)]) (kl := [(6, 6), (11, 11), (36, 56)]) (k + 1) ?_ ?_ ?_ ?_)
      · omega
      · exact ⟨by omega, by rw [hr2, drop_str (by omega), wordOk_next h55]⟩
      · exact ⟨rfl, trivial⟩
      · exact trivial
    try simp only [nrm] at h37
    refine egr ?_
    refine s1 (y_bin rfl rfl rfl (fun hg => b_add (by omega))) ?_
    refine sr 1 ?_
    refine S_nil (nK1 (kf := [(6, 6), (10, 11), (30, 57)]) (kl := [(6, 6), (10, 11), (30, 57)]) (i + 1) ?_ ?_ ?_ ?_)
    · omega
    · exact ⟨by omega, by rw [hq2, three_drop _ _ _ (by omega), any_f (badW_f (by rw [hr2, List.drop_eq_nil_of_le (by omega)]; rfl))]⟩
    · exact ⟨rfl, trivial⟩
    · exact trivial
  try simp only [nrm] at h31
  refine egs ?_
  refine tx ?_
  refine sr 1 ?_
  refine s1 (y_bin rfl rfl rfl (fun _ => b_eqls)) ?_
  refine sgo ?_
  refine T_cond rfl ?_ ?_ <;> intro h59
  · try simp only [nrm] at h59
    refine tx ?_
    refine sr 1 ?_
    refine sgo ?_
    refine tr1 hRb fun w hM => ?_
    exact ⟨by rw [if_f (by rw [hp2, List.drop_eq_nil_of_le (by simp; omega)]; rfl), if_f (by rw [hq2, List.drop_eq_nil_of_le (by simp; omega)]; rfl), if_pos h59], hM.below⟩
  try simp only [nrm] at h59
  refine kgx ?_
  refine sr 1 ?_
  refine sgo ?_
  refine tr1 hRb fun w hM => ?_
  exact ⟨by rw [if_f (by rw [hp2, List.drop_eq_nil_of_le (by simp; omega)]; rfl), if_f (by rw [hq2, List.drop_eq_nil_of_le (by simp; omega)]; rfl), if_neg h59], hM.below⟩

theorem mem_at {α : Type} {l : List α} {i : Nat} {x : α} (h : l[i]? = some x) : x ∈ l := List.mem_of_getElem? h
structure FrmsOk (w : World) (l : Sl Frm) : Prop where
  ok : l.Ok Frm.enc 6 w
  q : l.q ≤ 4611686018427387904
  n : ∀ f ∈ l.l, f.m.length ≤ 4611686018427387904 ∧ f.f.length ≤ 4611686018427387904 ∧ f.fi.length ≤ 4611686018427387904
theorem FrmsOk.below {w w' : World} {l : Sl Frm} (h : FrmsOk w l) (hb : Below w.heap.size w w') : FrmsOk w' l := ⟨h.ok.below hb, h.q, h.n⟩
def frmsNo : List Frm → Int
  | [] => 0
  | f :: r => if frmNo f ≠ 0 then frmNo f else frmsNo r
def framesNo (l : Sl Frm) : Int := if (200 : Int) < l.q then 4 else frmsNo l.l
theorem checkFrames_any (l : Sl Frm) (w : World) (hl : FrmsOk w l) :
    Calls Tryz.prog 212 #[.slice l.A l.q l.c] w fun e w' => e = .returned (.int .i64 (framesNo l)) ∧ Below w.heap.size w w' := by
  have ht := hl.ok.t
  have hq := hl.q
  refine enter_args (args := [.slice l.A l.q l.c]) (F := _) Tryz.func212 rfl Tryz.ntmps212 rfl rfl ?_
  intro Rb hRb hRn
  refine tx ?_
  refine sr 1 ?_
  refine sgs ?_
  refine tx ?_
  refine sr 1 ?_
  refine s1 (y_len_slice rfl rfl Tryz.underlying98) ?_
  refine sr 1 ?_
  refine sgo ?_
  refine T_cond rfl ?_ ?_ <;> intro h8
  · try simp only [nrm] at h8
    refine tx ?_
    refine sr 1 ?_
    refine sgo ?_
    refine tr1 hRb fun w hM => ?_
    exact ⟨by rw [framesNo, if_pos (by omega)], hM.below⟩
  try simp only [nrm] at h8
  refine kgs ?_
  refine tx ?_
  refine sr 1 ?_
  refine s1 (y_len_slice rfl rfl Tryz.underlying98) ?_
  refine sr 1 ?_
  refine sgo ?_
  refine T_block ?_
  refine lK1 (kf := [(2, 2), (4, 5), (11, 20)]) (kl := [(2, 2), (4, 5), (11, 20)]) (fun (i : Nat) => [(11, true, .int .i64 (i : Int))]) (fun (i : Nat) => []) (fun (i : Nat) => i ≤ l.q ∧ frmsNo l.l = frmsNo (l.l.drop i)) (fun (i : Nat) => l.q - i) 0 ?_ ?_ ?_ ?_
  · exact ⟨by omega, rfl⟩
  · exact ⟨rfl, trivial⟩
  · exact trivial
  rintro i ⟨hp1, hp2⟩
  refine tx ?_
  refine sr 1 ?_
  refine sgs ?_
  refine T_cond rfl ?_ ?_ <;> intro h12
  · try simp only [nrm] at h12
    obtain ⟨x, hx1, hx2⟩ := ht.at (i := i) (by omega)
    have hn := hl.n x (mem_at hx1)
    refine kgs ?_
    refine T_block ?_
    refine tx ?_
    refine s1 (y_indexAddr rfl rfl rfl Tryz.underlying98 sz105 (fun hg => ht.isSome (by omega)) (fun _ => by omega)) ?_
    refine s1 (y_loadT rfl rfl ht (fun _ => rfl) (fun _ => hx1) Tryz.underlying105 rfl sz105) ?_
    refine S_alloc 4 4 rfl rfl rfl rfl z105 ?_
    intro b4
    refine S_store 4 rfl rfl rfl rfl rfl rfl sz105 rfl rfl ?_
    refine sgx ?_
    refine s1 (yA 4 rfl Tryz.underlying105 sz105) ?_
    refine s1 (y_call rfl rfl rfl cf231 (fun _ w _ => CheckFrame_any x hn.1 hn.2.1 hn.2.2 w)) ?_
    refine sr 1 ?_
    refine sgx ?_
    refine sr 2 ?_
    refine sgo ?_
    refine T_cond rfl ?_ ?_ <;> intro h18
    · try simp only [nrm] at h18
      refine tx ?_
      refine sr 2 ?_
      refine sgo ?_
      refine tr1 hRb fun w hM => ?_
      exact ⟨by rw [framesNo, if_neg (by omega), hp2, hx2, frmsNo, if_pos h18], hM.below⟩
    try simp only [nrm] at h18
    refine kgr ?_
    refine s1 (y_bin rfl rfl rfl (fun hg => b_add (by omega))) ?_
    refine sr 1 ?_
    refine S_nil (nK1 (kf := [(2, 2), (4, 5), (11, 20)]) (kl := [(2, 2), (4, 5), (11, 20)]) (i + 1) ?_ ?_ ?_ ?_)
    · omega
    · exact ⟨by omega, by rw [hp2, hx2, frmsNo, if_neg (by simpa using h18)]⟩
    · exact ⟨rfl, trivial⟩
    · exact trivial
  try simp only [nrm] at h12
  refine egx ?_
  refine sr 1 ?_
  refine sgo ?_
  refine tr1 hRb fun w hM => ?_
  exact ⟨by rw [framesNo, if_neg (by omega), hp2, ht.end (by omega)]; rfl, hM.below⟩
/-- what it copies: elements that are read anew -/
theorem CloneF_any (l : Sl Frm) (w : World) (hl : l.Ok Frm.enc 6 w) (hq : l.q ≤ 1000000000) :
    Calls Tryz.prog 49 #[.slice l.A l.q l.c] w fun e w' => ∃ A c, e = .returned (.slice A l.q c) ∧ w'.ownsRow w.heap.size 105 6 (.slice A l.q c) l.q (l.l.flatMap Frm.enc) ∧ Below w.heap.size w w' := by
  have hlen := hl.t.len
  refine enter_args (args := [.slice l.A l.q l.c]) (F := _) Tryz.func49 rfl Tryz.ntmps49 rfl rfl ?_
  intro Rb hRb hRn
  refine tx ?_
  refine S_nilSlice 2 (e := 105) (size := 6) ?_
  refine sr 1 ?_
  refine sgs ?_
  refine tx ?_
  refine sr 1 ?_
  refine s1 (y_bin rfl rfl rfl (fun _ => b_eqln Tryz.underlying98)) ?_
  refine sgo ?_
  refine T_cond rfl ?_ ?_ <;> intro h4
  · skip
    refine tx ?_
    refine S_nilSlice 2 (e := 105) (size := 6) ?_
    refine sr 1 ?_
    refine sgo ?_
    refine tr1 hRb fun w hM => ?_
    have hA : l.A = none := by cases h : l.A with
      | none => rfl
      | some a => rw [h] at h4; cases h4
    have h0 : l.q = 0 := by
      rcases Nat.eq_zero_or_pos l.q with h | h
      · exact h
      · have := hl.t.isSome h; rw [hA] at this; cases this
    have hn : l.l = [] := List.eq_nil_of_length_eq_zero (by omega)
    rw [h0, hn]
    exact ⟨none, 0, rfl, World.ownsRow_nil _ _ _ _, hM.below⟩
  refine kgx ?_
  refine S_buildSlice0 5 5 rfl rfl rfl rfl Tryz.underlying98 sz105 ?_
  intro b5
  refine sr 1 ?_
  obtain ⟨i7, hi7, hz7, hs7, hy7⟩ := info_parts inf105
  refine S_appendG 7 5 (news := l.l.flatMap Frm.enc) rfl rfl rfl rfl rfl rfl rfl (fun w hM => hl.t.rd.below hM.below) Tryz.underlying98 hi7 hz7 hs7 hy7 rfl (by decide) (allOne_of (fun u hu => by obtain ⟨a, _, ha⟩ := List.mem_flatMap.1 hu; simp [Frm.enc] at ha; rcases ha with rfl | rfl | rfl | rfl | rfl | rfl <;> rfl)) ?_ ?_ (l.q) (l.l.flatMap Frm.enc) ?_ ?_ ?_
  · (simp only [maxLen]; omega)
  · omega
  · omega
  · rfl
  intro A7 c7
  refine sr 1 ?_
  refine sgo ?_
  refine tr1 hRb fun w hM => ?_
  exact ⟨A7, c7, rfl, hM.sat 5 _ rfl, hM.below⟩
theorem FramesFault_any (l : Sl Frm) (w : World) (hl : FrmsOk w l) :
    Calls Tryz.prog 83 #[.slice l.A l.q l.c] w fun e w' => e = .returned (.int .i64 (framesNo l)) ∧ Below w.heap.size w w' := by
  have ht := hl.ok.t
  have hq := hl.q
  refine enter_args (args := [.slice l.A l.q l.c]) (F := _) Tryz.func83 rfl Tryz.ntmps83 rfl rfl ?_
  intro Rb hRb hRn
  refine tx ?_
  refine sr 1 ?_
  refine sgs ?_
  refine tx ?_
  refine sr 1 ?_
  refine s1 (y_len_slice rfl rfl Tryz.underlying98) ?_
  refine sr 1 ?_
  refine sgo ?_
  refine T_cond rfl ?_ ?_ <;> intro h8
  · try simp only [nrm] at h8
    refine tx ?_
    refine sr 1 ?_
    refine sgo ?_
    refine tr1 hRb fun w hM => ?_
    exact ⟨by rw [framesNo, if_pos (by omega)], hM.below⟩
  try simp only [nrm] at h8
  refine kgs ?_
  refine tx ?_
  refine sr 1 ?_
  refine s1 (y_len_slice rfl rfl Tryz.underlying98) ?_
  refine sr 1 ?_
  refine sgo ?_
  refine T_block ?_
  refine lK1 (kf := [(2, 2), (4, 5), (11, 41)]) (kl := [(2, 2), (4, 5), (11, 41)]) (fun (i : Nat) => [(11, true, .int .i64 (i : Int))]) (fun (i : Nat) => []) (fun (i : Nat) => i ≤ l.q ∧ frmsNo l.l = frmsNo (l.l.drop i)) (fun (i : Nat) => l.q - i) 0 ?_ ?_ ?_ ?_
  · exact ⟨by omega, rfl⟩
  · exact ⟨rfl, trivial⟩
  · exact trivial
  rintro i ⟨hp1, hp2⟩
  refine tx ?_
  refine sr 1 ?_
  refine sgs ?_
  refine T_cond rfl ?_ ?_ <;> intro h12
  · try simp only [nrm] at h12
    obtain ⟨x, hx1, hx2⟩ := ht.at (i := i) (by omega)
    have hn := hl.n x (mem_at hx1)
    refine kgs ?_
    refine T_block ?_
    refine tx ?_
    refine s1 (y_indexAddr rfl rfl rfl Tryz.underlying98 sz105 (fun hg => ht.isSome (by omega)) (fun _ => by omega)) ?_
    refine s1 (y_loadT rfl rfl ht (fun _ => rfl) (fun _ => hx1) Tryz.underlying105 rfl sz105) ?_
    refine S_alloc 4 4 rfl rfl rfl rfl z105 ?_
    intro b4
    refine S_store 4 rfl rfl rfl rfl rfl rfl sz105 rfl rfl ?_
    refine sgs ?_
    refine tx ?_
    refine s1 (yF fa105_0) ?_
    refine s1 (yL 4 Tryz.underlying9) ?_
    refine s1 (yF fa105_1) ?_
    refine s1 (yL 4 Tryz.underlying9) ?_
    refine s1 (yF fa105_2) ?_
    refine s1 (yL 4 Tryz.underlying9) ?_
    refine s1 (y_call rfl rfl rfl cf125 (fun _ w _ => frameFault_any _ _ _ hn.1 hn.2.1 hn.2.2 w)) ?_
    refine sr 1 ?_
    refine sgx ?_
    refine sr 2 ?_
    refine sgo ?_
    refine T_cond rfl ?_ ?_ <;> intro h23
    · try simp only [nrm] at h23
      have hf : frmNo x = wordsNo x.m x.f x.fi := frmNo_words rfl h23
      refine tx ?_
      refine sr 2 ?_
      refine sgo ?_
      refine tr1 hRb fun w hM => ?_
      exact ⟨by rw [framesNo, if_neg (by omega), hp2, hx2, frmsNo, hf, if_pos h23], hM.below⟩
    try simp only [nrm] at h23
    have hf := frmNo_rest h23
    refine kgs ?_
    refine tx ?_
    refine s1 (yF fa105_3) ?_
    refine s1 (yL 4 Tryz.underlying3) ?_
    refine s1 (y_call rfl rfl rfl cf42 (fun _ w _ => out_any _ _ _ w)) ?_
    refine sr 1 ?_
    refine sg rfl (yF fa105_4) ?_
    refine sg rfl (yL 4 Tryz.underlying3) ?_
    refine sg rfl (y_call rfl rfl rfl cf42 (fun _ w _ => out_any _ _ _ w)) ?_
    refine s1 (y_or rfl rfl rfl) ?_
    refine sgo ?_
    refine T_cond rfl ?_ ?_ <;> intro h32
    · skip
      rw [if_t h32] at hf
      refine tx ?_
      refine sr 1 ?_
      refine sgo ?_
      refine tr1 hRb fun w hM => ?_
      exact ⟨by rw [framesNo, if_neg (by omega), hp2, hx2, frmsNo, hf, if_pos (by decide)], hM.below⟩
    rw [if_f h32] at hf
    refine kgx ?_
    refine s1 (yF fa105_3) ?_
    refine s1 (yL 4 Tryz.underlying3) ?_
    refine sr 2 ?_
    refine sg rfl (yF fa105_2) ?_
    refine sg rfl (yL 4 Tryz.underlying9) ?_
    refine sg rfl (y_bin rfl rfl rfl (fun _ => b_eqls)) ?_
    refine s1 (y_and rfl rfl rfl) ?_
    refine sgo ?_
    refine T_cond rfl ?_ ?_ <;> intro h40
    · skip
      have hc : x.ln ≠ 0 ∧ x.fi = [] := by simpa using h40
      rw [if_pos hc] at hf
      refine tx ?_
      refine sr 1 ?_
      refine sgo ?_
      refine tr1 hRb fun w hM => ?_
      exact ⟨by rw [framesNo, if_neg (by omega), hp2, hx2, frmsNo, hf, if_pos (by decide)], hM.below⟩
    have hc : ¬ (x.ln ≠ 0 ∧ x.fi = []) := by simpa using h40
    rw [if_neg hc] at hf
    refine kgr ?_
    refine s1 (y_bin rfl rfl rfl (fun hg => b_add (by omega))) ?_
    refine sr 1 ?_
    refine S_nil (nK1 (kf := [(2, 2), (4, 5), (11, 41)]) (kl := [(2, 2), (4, 5), (11, 41)]) (i + 1) ?_ ?_ ?_ ?_)
    · omega
    · exact ⟨by omega, by rw [hp2, hx2, frmsNo, if_neg (by rw [hf]; simp)]⟩
    · exact ⟨rfl, trivial⟩
    · exact trivial
  try simp only [nrm] at h12
  refine egx ?_
  refine sr 1 ?_
  refine sgo ?_
  refine tr1 hRb fun w hM => ?_
  exact ⟨by rw [framesNo, if_neg (by omega), hp2, ht.end (by omega)]; rfl, hM.below⟩
end Go.Proofs.YtekbcbjimajnfaaGreatDoor
end
section
namespace Go.Proofs.YtekbcbjimajnfaaGreatDoor
set_option linter.unusedSimpArgs false
set_option linter.unusedVariables false
set_option maxRecDepth 20000
open Go.RowKit Go.Eng
/-- a name: 1 to 40 bytes, the first one a small letter -/
def nameBs : List UInt8 := [97, 98, 99, 100, 101, 102, 103, 104, 105, 106, 107, 108, 109, 110, 111, 112, 113, 114, 115, 116, 117, 118, 119, 120, 121, 122, 48, 49, 50, 51, 52, 53, 54, 55, 56, 57, 45, 46, 95]
def nameOk (s : List UInt8) : Bool := !decide (s = []) && decide ((s.length : Int) ≤ 40) && decide ((97 : Int) ≤ ((s.getD 0 0).toNat : Int)) && decide (((s.getD 0 0).toNat : Int) ≤ 122) && decide (Lib.trimS s nameBs = [])
def valBad (c : UInt8) : Bool := decide ((c.toNat : Int) < 32) || decide ((126 : Int) < (c.toNat : Int))
def sayBad (c : UInt8) : Bool := decide ((c.toNat : Int) < 32) || decide ((c.toNat : Int) = 127)
def valNo (s : List UInt8) : Int := if (200 : Int) < s.length then 4 else if s.any valBad = true then 9 else 0
def sayNo (s : List UInt8) : Int := if (2000 : Int) < s.length then 4 else if s.any sayBad = true then 9 else 0
structure Flt where
  k : List UInt8
  t : List UInt8
  fr : Sl Frm
def Flt.enc (f : Flt) : List Value := [str f.k, str f.t, .slice f.fr.A f.fr.q f.fr.c]
def Flt.val (f : Flt) : Value := .agg f.enc.toArray
structure STag where
  n : List UInt8
  v : List UInt8
def STag.enc (t : STag) : List Value := [str t.n, str t.v]
structure SCrumb where
  at_ : Int
  k : List UInt8
  t : List UInt8
def SCrumb.enc (c : SCrumb) : List Value := [.int .i64 c.at_, str c.k, str c.t]
structure Evt where
  id : List UInt8
  at_ : Int
  lv : Int
  fa : Sl Flt
  ta : Sl STag
  cr : Sl SCrumb
  rel : List UInt8
  us : List UInt8
  wt : Int
def Evt.enc (e : Evt) : List Value := [str e.id, .int .i64 e.at_, .int .i64 e.lv, .slice e.fa.A e.fa.q e.fa.c, .slice e.ta.A e.ta.q e.ta.c, .slice e.cr.A e.cr.q e.cr.c, str e.rel, str e.us, .int .i64 e.wt]
def Evt.val (e : Evt) : Value := .agg e.enc.toArray
structure FltOk (w : World) (f : Flt) : Prop where
  k : f.k.length ≤ 4611686018427387904
  t : f.t.length ≤ 4611686018427387904
  fr : FrmsOk w f.fr
structure FltsOk (w : World) (l : Sl Flt) : Prop where
  ok : l.Ok Flt.enc 3 w
  q : l.q ≤ 4611686018427387904
  n : ∀ f ∈ l.l, FltOk w f
structure TagsOk (w : World) (l : Sl STag) : Prop where
  ok : l.Ok STag.enc 2 w
  q : l.q ≤ 4611686018427387904
  n : ∀ t ∈ l.l, t.n.length ≤ 4611686018427387904 ∧ t.v.length ≤ 4611686018427387904
structure CrumbsOk (w : World) (l : Sl SCrumb) : Prop where
  ok : l.Ok SCrumb.enc 3 w
  q : l.q ≤ 4611686018427387904
  n : ∀ c ∈ l.l, c.k.length ≤ 4611686018427387904 ∧ c.t.length ≤ 4611686018427387904
structure Evt.Ok (w : World) (e : Evt) : Prop where
  fa : FltsOk w e.fa
  ta : TagsOk w e.ta
  cr : CrumbsOk w e.cr
  id : e.id.length ≤ 4611686018427387904
  rel : e.rel.length ≤ 4611686018427387904
  us : e.us.length ≤ 4611686018427387904
section
variable {w w' : World} (hb : Below w.heap.size w w')
include hb
theorem FltOk.below {f : Flt} (h : FltOk w f) : FltOk w' f := ⟨h.k, h.t, h.fr.below hb⟩
theorem FltsOk.below {l : Sl Flt} (h : FltsOk w l) : FltsOk w' l := ⟨h.ok.below hb, h.q, fun f hf => (h.n f hf).below hb⟩
theorem TagsOk.below {l : Sl STag} (h : TagsOk w l) : TagsOk w' l := ⟨h.ok.below hb, h.q, h.n⟩
theorem CrumbsOk.below {l : Sl SCrumb} (h : CrumbsOk w l) : CrumbsOk w' l := ⟨h.ok.below hb, h.q, h.n⟩
theorem Evt.Ok.below {e : Evt} (h : e.Ok w) : e.Ok w' := ⟨h.fa.below hb, h.ta.below hb, h.cr.below hb, h.id, h.rel, h.us⟩
end
/-! ### The codes of their faults -/
def fltNo (f : Flt) : Int :=
  if (200 : Int) < f.k.length then 4 else if wordOk [58] f.k = false then 9 else if f.k = [] then 1 else if sayNo f.t ≠ 0 then sayNo f.t else framesNo f.fr
def fltsNo : List Flt → Int
  | [] => 0
  | f :: r => if fltNo f ≠ 0 then fltNo f else fltsNo r
def faultsNo (l : Sl Flt) : Int := if l.q = 0 then 7 else if (10 : Int) < l.q then 4 else fltsNo l.l
def tagsNo : Option (List UInt8) → List STag → Int
  | _, [] => 0
  | p, t :: r => if nameOk t.n = false then 3 else if (p.any fun s => Op.bytesLess t.n s || decide (t.n = s)) = true then 5 else if valNo t.v ≠ 0 then valNo t.v else tagsNo (some t.n) r
def crumbsNo : Option Int → List SCrumb → Int
  | _, [] => 0
  | p, c :: r => if (decide (c.at_ < 0) || decide (3155759999 < c.at_)) = true then 2 else if (p.any fun n => decide (c.at_ < n)) = true then 5 else if nameOk c.k = false then 3 else if sayNo c.t ≠ 0 then sayNo c.t else crumbsNo (some c.at_) r
def headNo (id : List UInt8) (at_ lv : Int) : Int := if idOk id = false then 1 else if (decide (at_ < 0) || decide (3155759999 < at_) || (decide (lv < 1) || decide (5 < lv))) = true then 2 else 0
def fst (a b : Int) : Int := if a ≠ 0 then a else b
def evNo (e : Evt) : Int := fst (headNo e.id e.at_ e.lv) (fst (faultsNo e.fa) (fst (if (40 : Int) < e.ta.q then 4 else tagsNo none e.ta.l) (fst (if (50 : Int) < e.cr.q then 4 else crumbsNo none e.cr.l)
  (if (!decide (e.rel = []) && !nameOk e.rel) = true then 3 else fst (valNo e.us) (if (decide (e.wt < 1) || decide (1000000 < e.wt)) = true then 2 else 0)))))
theorem fst_t {a b : Int} (h : ¬ a = 0) : fst a b = a := if_pos h
theorem fst_f {a b : Int} (h : a = 0) : fst a b = b := if_neg (by simp [h])
theorem name_t {s : List UInt8} (h : (decide ((s.length : Int) < 1) || decide ((40 : Int) < (s.length : Int)) || decide (((s.getD 0 0).toNat : Int) < 97) || decide ((122 : Int) < ((s.getD 0 0).toNat : Int))) = true) : nameOk s = false := by
  unfold nameOk
  cases s with
  | nil => rfl
  | cons a r =>
    simp only [Bool.or_eq_true, decide_eq_true_eq, List.length_cons] at h
    rw [Bool.eq_false_iff]
    simp only [ne_eq, Bool.and_eq_true, decide_eq_true_eq, List.length_cons]
    omega
theorem name_f {s : List UInt8} (h : (decide ((s.length : Int) < 1) || decide ((40 : Int) < (s.length : Int)) || decide (((s.getD 0 0).toNat : Int) < 97) || decide ((122 : Int) < ((s.getD 0 0).toNat : Int))) = false) : s.length ≤ 40 ∧ decide (Lib.trimS s nameBs = []) = nameOk s := by
  cases s with
  | nil => simp at h
  | cons a r =>
    simp only [Bool.or_eq_false_iff, decide_eq_false_iff_not, List.length_cons] at h
    refine ⟨by simp only [List.length_cons]; omega, ?_⟩
    unfold nameOk
    rw [show (!decide (a :: r = [])) = true from by simp, show decide (((a :: r).length : Int) ≤ 40) = true from decide_eq_true (by simp only [List.length_cons]; omega), show decide ((97 : Int) ≤ (((a :: r).getD 0 0).toNat : Int)) = true from decide_eq_true (by omega),
      show decide ((((a :: r).getD 0 0).toNat : Int) ≤ 122) = true from decide_eq_true (by omega)]
    rfl
def prevN (i : Nat) (b : STag) : Option (List UInt8) := if i = 0 then none else some b.n
def prevA (i : Nat) (b : SCrumb) : Option Int := if i = 0 then none else some b.at_
theorem prevN_any (i : Nat) (b : STag) (f : List UInt8 → Bool) : (prevN i b).any f = (decide ((0 : Int) < (i : Int)) && f b.n) := by
  unfold prevN
  rcases Nat.eq_zero_or_pos i with h | h
  · simp [h]
  · rw [if_neg (by omega)]; simp [h]
theorem prevA_any (i : Nat) (b : SCrumb) (f : Int → Bool) : (prevA i b).any f = (decide ((0 : Int) < (i : Int)) && f b.at_) := by
  unfold prevA
  rcases Nat.eq_zero_or_pos i with h | h
  · simp [h]
  · rw [if_neg (by omega)]; simp [h]
theorem tagsNo_nil (p : Option (List UInt8)) : tagsNo p [] = 0 := by unfold tagsNo; rfl
theorem crumbsNo_nil (p : Option Int) : crumbsNo p [] = 0 := by unfold crumbsNo; rfl
theorem fltNo_say {f : Flt} {k : Int} (h1 : ¬ (200 : Int) < f.k.length) (h2 : wordOk [58] f.k = true) (h3 : ¬ f.k = []) (h : sayNo f.t = k) (hk : ¬ k = 0) : fltNo f = k := by
  rw [fltNo, if_neg h1, if_neg (by rw [h2]; simp), if_neg h3, h, if_pos hk]
theorem fltNo_frs {f : Flt} (h1 : ¬ (200 : Int) < f.k.length) (h2 : wordOk [58] f.k = true) (h3 : ¬ f.k = []) (h : sayNo f.t = 0) : fltNo f = framesNo f.fr := by
  rw [fltNo, if_neg h1, if_neg (by rw [h2]; simp), if_neg h3, h, if_neg (by simp)]
theorem one58 (c : UInt8) : (decide ((c.toNat : Int) < 33) || decide ((126 : Int) < (c.toNat : Int)) || decide ((c.toNat : Int) = 58)) = byteBad [58] c := by
  have e : [(58 : UInt8)].contains c = decide ((c.toNat : Int) = 58) := by
    rw [Bool.eq_iff_iff]
    simp only [List.contains_cons, List.contains_nil, Bool.or_false, beq_iff_eq, decide_eq_true_eq]
    constructor
    · rintro rfl; rfl
    · intro h; exact UInt8.toNat_inj.1 (show c.toNat = 58 from by omega)
  rw [byteBad, e]
end Go.Proofs.YtekbcbjimajnfaaGreatDoor
end
section
namespace Go.Proofs.YtekbcbjimajnfaaGreatDoor
set_option linter.unusedSimpArgs false
set_option linter.unusedVariables false
set_option maxRecDepth 20000
open Go.RowKit Go.Eng
theorem TrimName_any (s : List UInt8) (hs : s.length ≤ 1000) (w : World) :
    Calls Tryz.prog 84 #[str s, str nameBs] w fun e w' => e = .returned (str (Lib.trimS s nameBs)) ∧ Below w.heap.size w w' :=
  Any.strings_Trim_laid Tryz.lays160 (by kernel_rfl) ⟨s.toArray⟩ ⟨nameBs.toArray⟩ w (by rw [Lib.size_eq]; simp; omega) (by decide) (ascii_of_all (by decide))
theorem isDigest_any (s : List UInt8) (w : World) :
    Calls Tryz.prog 133 #[str s] w fun e w' => e = .returned (.bool (idOk s)) ∧ Below w.heap.size w w' := by
  refine enter_args (args := [str s]) (F := _) Tryz.func133 rfl Tryz.ntmps133 rfl rfl ?_
  intro Rb hRb hRn
  refine tx ?_
  refine sr 1 ?_
  refine sgx ?_
  refine sr 1 ?_
  refine s1 (y_len_str rfl rfl Tryz.underlying9) ?_
  refine sr 2 ?_
  refine sg rfl (y_move rfl rfl) ?_
  refine sg rfl (y_call rfl rfl rfl cf84 (fun hg w _ => TrimHex_any s (by simp only [Bool.true_and, Bool.and_eq_true, beq_iff_eq, decide_eq_true_eq, decide_eq_false_iff_not, Int.not_lt, Int.not_le] at hg; omega) w)) ?_
  refine sg rfl (y_bin rfl rfl rfl (fun _ => b_eqls)) ?_
  refine s1 (y_and rfl rfl rfl) ?_
  refine sr 1 ?_
  refine sgo ?_
  refine tr1 hRb fun w hM => ?_
  exact ⟨rfl, hM.below⟩
theorem eoutside_any (n lo hi : Int) (w : World) :
    Calls Tryz.prog 90 #[.int .i64 n, .int .i64 lo, .int .i64 hi] w fun e w' => e = .returned (.bool (decide (n < lo) || decide (hi < n))) ∧ Below w.heap.size w w' := by
  refine enter_args (args := [.int .i64 n, .int .i64 lo, .int .i64 hi]) (F := _) Tryz.func90 rfl Tryz.ntmps90 rfl rfl ?_
  intro Rb hRb hRn
  refine tx ?_
  refine sr 1 ?_
  refine sgx ?_
  refine sr 4 ?_
  refine sg rfl (y_move rfl rfl) ?_
  refine sg rfl (y_move rfl rfl) ?_
  refine sg rfl (y_bin rfl rfl rfl (fun _ => b_gtr)) ?_
  refine s1 (y_or rfl rfl rfl) ?_
  refine sr 1 ?_
  refine sgo ?_
  refine tr1 hRb fun w hM => ?_
  exact ⟨rfl, hM.below⟩
theorem IsName_any (s : List UInt8) (w : World) :
    Calls Tryz.prog 67 #[str s] w fun e w' => e = .returned (.bool (nameOk s)) ∧ Below w.heap.size w w' := by
  refine enter_args (args := [str s]) (F := _) Tryz.func67 rfl Tryz.ntmps67 rfl rfl ?_
  intro Rb hRb hRn
  refine tx ?_
  refine sr 1 ?_
  refine sgs ?_
  refine tx ?_
  refine sr 1 ?_
  refine s1 (y_len_str rfl rfl Tryz.underlying9) ?_
  refine sr 2 ?_
  refine sg rfl (y_move rfl rfl) ?_
  refine sg rfl (y_len_str rfl rfl Tryz.underlying9) ?_
  refine sg rfl (y_bin rfl rfl rfl (fun _ => b_gtr)) ?_
  refine s1 (y_or rfl rfl rfl) ?_
  refine sr 1 ?_
  refine sg rfl (y_move rfl rfl) ?_
  refine sg rfl (y_index_str (j := 0) rfl rfl rfl Tryz.underlying9 (fun hg => List.length_pos_iff.2 (fun e => by subst e; simp at hg))) ?_
  refine sg rfl (y_bin rfl rfl rfl (fun _ => b_lss)) ?_
  refine s1 (y_or rfl rfl rfl) ?_
  refine sr 1 ?_
  refine sg rfl (y_move rfl rfl) ?_
  refine sg rfl (y_index_str (j := 0) rfl rfl rfl Tryz.underlying9 (fun hg => List.length_pos_iff.2 (fun e => by subst e; simp at hg))) ?_
  refine sg rfl (y_bin rfl rfl rfl (fun _ => b_gtr)) ?_
  refine s1 (y_or rfl rfl rfl) ?_
  refine sgo ?_
  refine T_cond rfl ?_ ?_ <;> intro h20
  · skip
    refine tx ?_
    refine sr 1 ?_
    refine sgo ?_
    refine tr1 hRb fun w hM => ?_
    exact ⟨by rw [name_t h20], hM.below⟩
  have hn := name_f h20
  have hl := hn.1
  refine kgx ?_
  refine sr 1 ?_
  refine s1 (y_call rfl rfl rfl cf84 (fun _ w _ => TrimName_any s (by omega) w)) ?_
  refine s1 (y_bin rfl rfl rfl (fun _ => b_eqls)) ?_
  refine sr 1 ?_
  refine sgo ?_
  refine tr1 hRb fun w hM => ?_
  exact ⟨by rw [← hn.2], hM.below⟩
theorem NameOk_any (s : List UInt8) (w : World) :
    Calls Tryz.prog 40 #[str s] w fun e w' => e = .returned (.bool (nameOk s)) ∧ Below w.heap.size w w' := by
  refine enter_args (args := [str s]) (F := _) Tryz.func40 rfl Tryz.ntmps40 rfl rfl ?_
  intro Rb hRb hRn
  refine tx ?_
  refine sr 1 ?_
  refine sgx ?_
  refine sr 1 ?_
  refine s1 (y_bin rfl rfl rfl (fun _ => b_neqs)) ?_
  refine sr 1 ?_
  refine sg rfl (y_move rfl rfl) ?_
  refine sg rfl (y_len_str rfl rfl Tryz.underlying9) ?_
  refine sg rfl (y_bin rfl rfl rfl (fun _ => b_leq)) ?_
  refine s1 (y_and rfl rfl rfl) ?_
  refine sr 1 ?_
  refine sg rfl (y_move rfl rfl) ?_
  refine sg rfl (y_index_str (j := 0) rfl rfl rfl Tryz.underlying9 (fun hg => List.length_pos_iff.2 (fun e => by subst e; simp at hg))) ?_
  refine sg rfl (y_bin rfl rfl rfl (fun _ => b_geq)) ?_
  refine s1 (y_and rfl rfl rfl) ?_
  refine sr 1 ?_
  refine sg rfl (y_move rfl rfl) ?_
  refine sg rfl (y_index_str (j := 0) rfl rfl rfl Tryz.underlying9 (fun hg => List.length_pos_iff.2 (fun e => by subst e; simp at hg))) ?_
  refine sg rfl (y_bin rfl rfl rfl (fun _ => b_leq)) ?_
  refine s1 (y_and rfl rfl rfl) ?_
  refine sr 1 ?_
  refine sg rfl (y_move rfl rfl) ?_
  refine sg rfl (y_call rfl rfl rfl cf84 (fun hg w _ => TrimName_any s (by simp only [Bool.true_and, Bool.and_eq_true, beq_iff_eq, decide_eq_true_eq, decide_eq_false_iff_not, Int.not_lt, Int.not_le] at hg; omega) w)) ?_
  refine sg rfl (y_bin rfl rfl rfl (fun _ => b_eqls)) ?_
  refine s1 (y_and rfl rfl rfl) ?_
  refine sr 1 ?_
  refine sgo ?_
  refine tr1 hRb fun w hM => ?_
  exact ⟨rfl, hM.below⟩
theorem checkValue_any (s : List UInt8) (hs : s.length ≤ 4611686018427387904) (w : World) :
    Calls Tryz.prog 89 #[str s] w fun e w' => e = .returned (.int .i64 (valNo s)) ∧ Below w.heap.size w w' := by
  refine enter_args (args := [str s]) (F := _) Tryz.func89 rfl Tryz.ntmps89 rfl rfl ?_
  intro Rb hRb hRn
  refine tx ?_
  refine sr 1 ?_
  refine sgs ?_
  refine tx ?_
  refine sr 1 ?_
  refine s1 (y_len_str rfl rfl Tryz.underlying9) ?_
  refine sr 1 ?_
  refine sgo ?_
  refine T_cond rfl ?_ ?_ <;> intro h6
  · try simp only [nrm] at h6
    refine tx ?_
    refine sr 1 ?_
    refine sgo ?_
    refine tr1 hRb fun w hM => ?_
    exact ⟨by rw [valNo, if_pos (by omega)], hM.below⟩
  try simp only [nrm] at h6
  refine kgs ?_
  refine tx ?_
  refine sr 1 ?_
  refine s1 (y_len_str rfl rfl Tryz.underlying9) ?_
  refine sr 1 ?_
  refine sgo ?_
  refine T_block ?_
  refine lK1 (kf := [(2, 3), (9, 22)]) (kl := [(2, 3), (9, 22)]) (fun (i : Nat) => [(9, true, .int .i64 (i : Int))]) (fun (i : Nat) => []) (fun (i : Nat) => i ≤ s.length ∧ s.any valBad = (s.drop i).any valBad) (fun (i : Nat) => s.length - i) 0 ?_ ?_ ?_ ?_
  · exact ⟨by omega, rfl⟩
  · exact ⟨rfl, trivial⟩
  · exact trivial
  rintro i ⟨hp1, hp2⟩
  refine tx ?_
  refine sr 1 ?_
  refine sgs ?_
  refine T_cond rfl ?_ ?_ <;> intro h10
  · try simp only [nrm] at h10
    refine kgs ?_
    refine T_block ?_
    refine tx ?_
    refine sr 2 ?_
    refine sgx ?_
    refine sr 2 ?_
    refine s1 (y_index_str rfl rfl rfl Tryz.underlying9 (fun _ => by omega)) ?_
    refine sr 2 ?_
    refine sg rfl (y_move rfl rfl) ?_
    refine sg rfl (y_move rfl rfl) ?_
    refine sg rfl (y_index_str rfl rfl rfl Tryz.underlying9 (fun hg => by simp only [Bool.true_and, Bool.and_eq_true, beq_iff_eq, decide_eq_true_eq, decide_eq_false_iff_not, Int.not_lt, Int.not_le] at hg; omega)) ?_
    refine sg rfl (y_bin rfl rfl rfl (fun _ => b_gtr)) ?_
    refine s1 (y_as (v' := .bool (valBad (s.getD i 0))) (by exact rfl) (y_or rfl rfl rfl)) ?_
    refine sgo ?_
    refine T_cond rfl ?_ ?_ <;> intro h21
    · skip
      refine tx ?_
      refine sr 1 ?_
      refine sgo ?_
      refine tr1 hRb fun w hM => ?_
      exact ⟨by rw [valNo, if_neg (by omega), if_pos (by rw [hp2, drop_str (by omega), any_t h21])], hM.below⟩
    refine kgr ?_
    refine s1 (y_bin rfl rfl rfl (fun hg => b_add (by omega))) ?_
    refine sr 1 ?_
    refine S_nil (nK1 (kf := [(2, 3), (9, 22)]) (kl := [(2, 3), (9, 22)]) (i + 1) ?_ ?_ ?_ ?_)
    · omega
    · exact ⟨by omega, by rw [hp2, drop_str (by omega), any_f h21]⟩
    · exact ⟨rfl, trivial⟩
    · exact trivial
  try simp only [nrm] at h10
  refine egx ?_
  refine sr 1 ?_
  refine sgo ?_
  refine tr1 hRb fun w hM => ?_
  exact ⟨by rw [valNo, if_neg (by omega), if_neg (by rw [hp2, List.drop_eq_nil_of_le (by omega)]; simp)], hM.below⟩
theorem wordFault_any (s : List UInt8) (hs : s.length ≤ 4611686018427387904) (w : World) :
    Calls Tryz.prog 41 #[str s] w fun e w' => e = .returned (.int .i64 (valNo s)) ∧ Below w.heap.size w w' := by
  refine enter_args (args := [str s]) (F := _) Tryz.func41 rfl Tryz.ntmps41 rfl rfl ?_
  intro Rb hRb hRn
  refine tx ?_
  refine sr 1 ?_
  refine sgs ?_
  refine tx ?_
  refine sr 1 ?_
  refine s1 (y_len_str rfl rfl Tryz.underlying9) ?_
  refine sr 1 ?_
  refine sgo ?_
  refine T_cond rfl ?_ ?_ <;> intro h6
  · try simp only [nrm] at h6
    refine tx ?_
    refine sr 1 ?_
    refine sgo ?_
    refine tr1 hRb fun w hM => ?_
    exact ⟨by rw [valNo, if_pos (by omega)], hM.below⟩
  try simp only [nrm] at h6
  refine kgs ?_
  refine tx ?_
  refine sr 1 ?_
  refine s1 (y_len_str rfl rfl Tryz.underlying9) ?_
  refine sr 1 ?_
  refine sgo ?_
  refine T_block ?_
  refine lK1 (kf := [(2, 3), (9, 22)]) (kl := [(2, 3), (9, 22)]) (fun (i : Nat) => [(9, true, .int .i64 (i : Int))]) (fun (i : Nat) => []) (fun (i : Nat) => i ≤ s.length ∧ s.any valBad = (s.drop i).any valBad) (fun (i : Nat) => s.length - i) 0 ?_ ?_ ?_ ?_
  · exact ⟨by omega, rfl⟩
  · exact ⟨rfl, trivial⟩
  · exact trivial
  rintro i ⟨hp1, hp2⟩
  refine tx ?_
  refine sr 1 ?_
  refine sgs ?_
  refine T_cond rfl ?_ ?_ <;> intro h10
  · try simp only [nrm] at h10
    refine kgs ?_
    refine T_block ?_
    refine tx ?_
    refine sr 2 ?_
    refine sgx ?_
    refine sr 2 ?_
    refine s1 (y_index_str rfl rfl rfl Tryz.underlying9 (fun _ => by omega)) ?_
    refine sr 2 ?_
    refine sg rfl (y_move rfl rfl) ?_
    refine sg rfl (y_move rfl rfl) ?_
    refine sg rfl (y_index_str rfl rfl rfl Tryz.underlying9 (fun hg => by simp only [Bool.true_and, Bool.and_eq_true, beq_iff_eq, decide_eq_true_eq, decide_eq_false_iff_not, Int.not_lt, Int.not_le] at hg; omega)) ?_
    refine sg rfl (y_bin rfl rfl rfl (fun _ => b_gtr)) ?_
    refine s1 (y_as (v' := .bool (valBad (s.getD i 0))) (by exact rfl) (y_or rfl rfl rfl)) ?_
    refine sgo ?_
    refine T_cond rfl ?_ ?_ <;> intro h21
    · skip
      refine tx ?_
      refine sr 1 ?_
      refine sgo ?_
      refine tr1 hRb fun w hM => ?_
      exact ⟨by rw [valNo, if_neg (by omega), if_pos (by rw [hp2, drop_str (by omega), any_t h21])], hM.below⟩
    refine kgr ?_
    refine s1 (y_bin rfl rfl rfl (fun hg => b_add (by omega))) ?_
    refine sr 1 ?_
    refine S_nil (nK1 (kf := [(2, 3), (9, 22)]) (kl := [(2, 3), (9, 22)]) (i + 1) ?_ ?_ ?_ ?_)
    · omega
    · exact ⟨by omega, by rw [hp2, drop_str (by omega), any_f h21]⟩
    · exact ⟨rfl, trivial⟩
    · exact trivial
  try simp only [nrm] at h10
  refine egx ?_
  refine sr 1 ?_
  refine sgo ?_
  refine tr1 hRb fun w hM => ?_
  exact ⟨by rw [valNo, if_neg (by omega), if_neg (by rw [hp2, List.drop_eq_nil_of_le (by omega)]; simp)], hM.below⟩
theorem checkSay_any (s : List UInt8) (hs : s.length ≤ 4611686018427387904) (w : World) :
    Calls Tryz.prog 135 #[str s] w fun e w' => e = .returned (.int .i64 (sayNo s)) ∧ Below w.heap.size w w' := by
  refine enter_args (args := [str s]) (F := _) Tryz.func135 rfl Tryz.ntmps135 rfl rfl ?_
  intro Rb hRb hRn
  refine tx ?_
  refine sr 1 ?_
  refine sgs ?_
  refine tx ?_
  refine sr 1 ?_
  refine s1 (y_len_str rfl rfl Tryz.underlying9) ?_
  refine sr 1 ?_
  refine sgo ?_
  refine T_cond rfl ?_ ?_ <;> intro h6
  · try simp only [nrm] at h6
    refine tx ?_
    refine sr 1 ?_
    refine sgo ?_
    refine tr1 hRb fun w hM => ?_
    exact ⟨by rw [sayNo, if_pos (by omega)], hM.below⟩
  try simp only [nrm] at h6
  refine kgs ?_
  refine tx ?_
  refine sr 1 ?_
  refine s1 (y_len_str rfl rfl Tryz.underlying9) ?_
  refine sr 1 ?_
  refine sgo ?_
  refine T_block ?_
  refine lK1 (kf := [(2, 3), (9, 22)]) (kl := [(2, 3), (9, 22)]) (fun (i : Nat) => [(9, true, .int .i64 (i : Int))]) (fun (i : Nat) => []) (fun (i : Nat) => i ≤ s.length ∧ s.any sayBad = (s.drop i).any sayBad) (fun (i : Nat) => s.length - i) 0 ?_ ?_ ?_ ?_
  · exact ⟨by omega, rfl⟩
  · exact ⟨rfl, trivial⟩
  · exact trivial
  rintro i ⟨hp1, hp2⟩
  refine tx ?_
  refine sr 1 ?_
  refine sgs ?_
  refine T_cond rfl ?_ ?_ <;> intro h10
  · try simp only [nrm] at h10
    refine kgs ?_
    refine T_block ?_
    refine tx ?_
    refine sr 2 ?_
    refine sgx ?_
    refine sr 2 ?_
    refine s1 (y_index_str rfl rfl rfl Tryz.underlying9 (fun _ => by omega)) ?_
    refine sr 2 ?_
    refine sg rfl (y_move rfl rfl) ?_
    refine sg rfl (y_move rfl rfl) ?_
    refine sg rfl (y_index_str rfl rfl rfl Tryz.underlying9 (fun hg => by simp only [Bool.true_and, Bool.and_eq_true, beq_iff_eq, decide_eq_true_eq, decide_eq_false_iff_not, Int.not_lt, Int.not_le] at hg; omega)) ?_
    refine sg rfl (y_bin rfl rfl rfl (fun _ => b_eql)) ?_
    refine s1 (y_as (v' := .bool (sayBad (s.getD i 0))) (by exact rfl) (y_or rfl rfl rfl)) ?_
    refine sgo ?_
    refine T_cond rfl ?_ ?_ <;> intro h21
    · skip
      refine tx ?_
      refine sr 1 ?_
      refine sgo ?_
      refine tr1 hRb fun w hM => ?_
      exact ⟨by rw [sayNo, if_neg (by omega), if_pos (by rw [hp2, drop_str (by omega), any_t h21])], hM.below⟩
    refine kgr ?_
    refine s1 (y_bin rfl rfl rfl (fun hg => b_add (by omega))) ?_
    refine sr 1 ?_
    refine S_nil (nK1 (kf := [(2, 3), (9, 22)]) (kl := [(2, 3), (9, 22)]) (i + 1) ?_ ?_ ?_ ?_)
    · omega
    · exact ⟨by omega, by rw [hp2, drop_str (by omega), any_f h21]⟩
    · exact ⟨rfl, trivial⟩
    · exact trivial
  try simp only [nrm] at h10
  refine egx ?_
  refine sr 1 ?_
  refine sgo ?_
  refine tr1 hRb fun w hM => ?_
  exact ⟨by rw [sayNo, if_neg (by omega), if_neg (by rw [hp2, List.drop_eq_nil_of_le (by omega)]; simp)], hM.below⟩
theorem sayFault_any (s : List UInt8) (hs : s.length ≤ 4611686018427387904) (w : World) :
    Calls Tryz.prog 43 #[str s] w fun e w' => e = .returned (.int .i64 (sayNo s)) ∧ Below w.heap.size w w' := by
  refine enter_args (args := [str s]) (F := _) Tryz.func43 rfl Tryz.ntmps43 rfl rfl ?_
  intro Rb hRb hRn
  refine tx ?_
  refine sr 1 ?_
  refine sgs ?_
  refine tx ?_
  refine sr 1 ?_
  refine s1 (y_len_str rfl rfl Tryz.underlying9) ?_
  refine sr 1 ?_
  refine sgo ?_
  refine T_cond rfl ?_ ?_ <;> intro h6
  · try simp only [nrm] at h6
    refine tx ?_
    refine sr 1 ?_
    refine sgo ?_
    refine tr1 hRb fun w hM => ?_
    exact ⟨by rw [sayNo, if_pos (by omega)], hM.below⟩
  try simp only [nrm] at h6
  refine kgs ?_
  refine tx ?_
  refine sr 1 ?_
  refine s1 (y_len_str rfl rfl Tryz.underlying9) ?_
  refine sr 1 ?_
  refine sgo ?_
  refine T_block ?_
  refine lK1 (kf := [(2, 3), (9, 22)]) (kl := [(2, 3), (9, 22)]) (fun (i : Nat) => [(9, true, .int .i64 (i : Int))]) (fun (i : Nat) => []) (fun (i : Nat) => i ≤ s.length ∧ s.any sayBad = (s.drop i).any sayBad) (fun (i : Nat) => s.length - i) 0 ?_ ?_ ?_ ?_
  · exact ⟨by omega, rfl⟩
  · exact ⟨rfl, trivial⟩
  · exact trivial
  rintro i ⟨hp1, hp2⟩
  refine tx ?_
  refine sr 1 ?_
  refine sgs ?_
  refine T_cond rfl ?_ ?_ <;> intro h10
  · try simp only [nrm] at h10
    refine kgs ?_
    refine T_block ?_
    refine tx ?_
    refine sr 2 ?_
    refine sgx ?_
    refine sr 2 ?_
    refine s1 (y_index_str rfl rfl rfl Tryz.underlying9 (fun _ => by omega)) ?_
    refine sr 2 ?_
    refine sg rfl (y_move rfl rfl) ?_
    refine sg rfl (y_move rfl rfl) ?_
    refine sg rfl (y_index_str rfl rfl rfl Tryz.underlying9 (fun hg => by simp only [Bool.true_and, Bool.and_eq_true, beq_iff_eq, decide_eq_true_eq, decide_eq_false_iff_not, Int.not_lt, Int.not_le] at hg; omega)) ?_
    refine sg rfl (y_bin rfl rfl rfl (fun _ => b_eql)) ?_
    refine s1 (y_as (v' := .bool (sayBad (s.getD i 0))) (by exact rfl) (y_or rfl rfl rfl)) ?_
    refine sgo ?_
    refine T_cond rfl ?_ ?_ <;> intro h21
    · skip
      refine tx ?_
      refine sr 1 ?_
      refine sgo ?_
      refine tr1 hRb fun w hM => ?_
      exact ⟨by rw [sayNo, if_neg (by omega), if_pos (by rw [hp2, drop_str (by omega), any_t h21])], hM.below⟩
    refine kgr ?_
    refine s1 (y_bin rfl rfl rfl (fun hg => b_add (by omega))) ?_
    refine sr 1 ?_
    refine S_nil (nK1 (kf := [(2, 3), (9, 22)]) (kl := [(2, 3), (9, 22)]) (i + 1) ?_ ?_ ?_ ?_)
    · omega
    · exact ⟨by omega, by rw [hp2, drop_str (by omega), any_f h21]⟩
    · exact ⟨rfl, trivial⟩
    · exact trivial
  try simp only [nrm] at h10
  refine egx ?_
  refine sr 1 ?_
  refine sgo ?_
  refine tr1 hRb fun w hM => ?_
  exact ⟨by rw [sayNo, if_neg (by omega), if_neg (by rw [hp2, List.drop_eq_nil_of_le (by omega)]; simp)], hM.below⟩
theorem CheckFault_any (f : Flt) (w : World) (hf : FltOk w f) :
    Calls Tryz.prog 134 #[f.val] w fun e w' => e = .returned (.int .i64 (fltNo f)) ∧ Below w.heap.size w w' := by
  have hk := hf.k
  have htl := hf.t
  refine enter_args (args := [.agg #[str f.k, str f.t, .slice f.fr.A f.fr.q f.fr.c]]) (F := _) Tryz.func134 rfl Tryz.ntmps134 rfl rfl ?_
  intro Rb hRb hRn
  refine tx ?_
  refine S_box 1 1 rfl rfl rfl rfl rfl ?_
  intro b1
  refine sr 1 ?_
  refine sgs ?_
  refine T_block ?_
  refine tx ?_
  refine s1 (yF fa100_0) ?_
  refine s1 (yL 1 Tryz.underlying9) ?_
  refine s1 (y_len_str rfl rfl Tryz.underlying9) ?_
  refine sr 2 ?_
  refine sgo ?_
  refine T_cond rfl ?_ ?_ <;> intro h4
  · try simp only [nrm] at h4
    refine tx ?_
    refine sr 1 ?_
    refine sgo ?_
    refine tr1 hRb fun w hM => ?_
    exact ⟨by rw [fltNo, if_pos (by omega)], hM.below⟩
  try simp only [nrm] at h4
  refine tx ?_
  refine s1 (yF fa100_0) ?_
  refine s1 (yL 1 Tryz.underlying9) ?_
  refine s1 (y_call rfl rfl rfl cf211 (fun hg w _ => isWord_any _ _ (by first | omega | (have := hsz; omega)) w)) ?_
  refine sr 2 ?_
  refine sgo ?_
  refine T_cond rfl ?_ ?_ <;> intro h9
  · try simp only [nrm] at h9
    refine tx ?_
    refine sr 1 ?_
    refine sgo ?_
    refine tr1 hRb fun w hM => ?_
    exact ⟨by rw [fltNo, if_neg (by omega), if_pos h9], hM.below⟩
  try simp only [nrm] at h9
  refine tx ?_
  refine s1 (yF fa100_0) ?_
  refine s1 (yL 1 Tryz.underlying9) ?_
  refine s1 (y_bin rfl rfl rfl (fun _ => b_eqls)) ?_
  refine sr 1 ?_
  refine sgo ?_
  refine T_cond rfl ?_ ?_ <;> intro h14
  · try simp only [nrm] at h14
    refine tx ?_
    refine sr 1 ?_
    refine sgo ?_
    refine tr1 hRb fun w hM => ?_
    exact ⟨by rw [fltNo, if_neg (by omega), if_neg (by rw [h9]; simp), if_pos h14], hM.below⟩
  try simp only [nrm] at h14
  refine tx ?_
  refine s1 (yF fa100_1) ?_
  refine s1 (yL 1 Tryz.underlying9) ?_
  refine s1 (y_len_str rfl rfl Tryz.underlying9) ?_
  refine sr 2 ?_
  refine sgo ?_
  refine T_cond rfl ?_ ?_ <;> intro h18
  · try simp only [nrm] at h18
    refine tx ?_
    refine sr 1 ?_
    refine sgo ?_
    refine tr1 hRb fun w hM => ?_
    exact ⟨by rw [fltNo_say (by omega) h9 h14 (k := 4) (by rw [sayNo, if_pos (by omega)]) (by decide)], hM.below⟩
  try simp only [nrm] at h18
  refine kgs ?_
  refine tx ?_
  refine s1 (yF fa100_1) ?_
  refine s1 (yL 1 Tryz.underlying9) ?_
  refine s1 (y_len_str rfl rfl Tryz.underlying9) ?_
  refine sr 1 ?_
  refine sgo ?_
  refine T_block ?_
  refine lK1 (kf := [(2, 3), (26, 41)]) (kl := [(2, 3), (26, 41)]) (fun (i : Nat) => [(26, true, .int .i64 (i : Int))]) (fun (i : Nat) => []) (fun (i : Nat) => i ≤ f.t.length ∧ f.t.any sayBad = (f.t.drop i).any sayBad) (fun (i : Nat) => f.t.length - i) 0 ?_ ?_ ?_ ?_
  · exact ⟨by omega, rfl⟩
  · exact ⟨rfl, trivial⟩
  · exact trivial
  rintro i ⟨hp1, hp2⟩
  refine tx ?_
  refine sr 1 ?_
  refine sgs ?_
  refine T_cond rfl ?_ ?_ <;> intro h27
  · try simp only [nrm] at h27
    refine kgs ?_
    refine T_block ?_
    refine tx ?_
    refine sr 2 ?_
    refine sgx ?_
    refine s1 (yF fa100_1) ?_
    refine s1 (yL 1 Tryz.underlying9) ?_
    refine sr 1 ?_
    refine s1 (y_index_str rfl rfl rfl Tryz.underlying9 (fun _ => by omega)) ?_
    refine sr 2 ?_
    refine sg rfl (yF fa100_1) ?_
    refine sg rfl (yL 1 Tryz.underlying9) ?_
    refine sg rfl (y_move rfl rfl) ?_
    refine sg rfl (y_index_str rfl rfl rfl Tryz.underlying9 (fun hg => by simp only [Bool.true_and, Bool.and_eq_true, beq_iff_eq, decide_eq_true_eq, decide_eq_false_iff_not, Int.not_lt, Int.not_le] at hg; omega)) ?_
    refine sg rfl (y_bin rfl rfl rfl (fun _ => b_eql)) ?_
    refine s1 (y_as (v' := .bool (sayBad (f.t.getD i 0))) (by exact rfl) (y_or rfl rfl rfl)) ?_
    refine sgo ?_
    refine T_cond rfl ?_ ?_ <;> intro h40
    · skip
      refine tx ?_
      refine sr 1 ?_
      refine sgo ?_
      refine tr1 hRb fun w hM => ?_
      exact ⟨by rw [fltNo_say (by omega) h9 h14 (k := 9) (by rw [sayNo, if_neg (by omega), if_pos (by rw [hp2, drop_str (by omega), any_t h40])]) (by decide)], hM.below⟩
    refine kgr ?_
    refine s1 (y_bin rfl rfl rfl (fun hg => b_add (by omega))) ?_
    refine sr 1 ?_
    refine S_nil (nK1 (kf := [(2, 3), (26, 41)]) (kl := [(2, 3), (26, 41)]) (i + 1) ?_ ?_ ?_ ?_)
    · omega
    · exact ⟨by omega, by rw [hp2, drop_str (by omega), any_f h40]⟩
    · exact ⟨rfl, trivial⟩
    · exact trivial
  try simp only [nrm] at h27
  refine egx ?_
  refine s1 (yF fa100_2) ?_
  refine s1 (yL 1 Tryz.underlying98) ?_
  refine s1 (y_call rfl rfl rfl cf212 (fun _ w hM => checkFrames_any _ w (hf.fr.below hM.below))) ?_
  refine sr 1 ?_
  refine sgo ?_
  refine tr1 hRb fun w hM => ?_
  exact ⟨by rw [fltNo_frs (by omega) h9 h14 (by rw [sayNo, if_neg (by omega), if_neg (by rw [hp2, List.drop_eq_nil_of_le (by omega)]; simp)])], hM.below⟩
theorem sCheck_any (l : Sl Flt) (w : World) (hl : FltsOk w l) :
    Calls Tryz.prog 86 #[.slice l.A l.q l.c] w fun e w' => e = .returned (.int .i64 (faultsNo l)) ∧ Below w.heap.size w w' := by
  have ht := hl.ok.t
  have hq := hl.q
  refine enter_args (args := [.slice l.A l.q l.c]) (F := _) Tryz.func86 rfl Tryz.ntmps86 rfl rfl ?_
  intro Rb hRb hRn
  refine tx ?_
  refine sr 1 ?_
  refine sgs ?_
  refine T_block ?_
  refine tx ?_
  refine sr 1 ?_
  refine s1 (y_len_slice rfl rfl Tryz.underlying27) ?_
  refine sr 2 ?_
  refine sgo ?_
  refine T_cond rfl ?_ ?_ <;> intro h6
  · try simp only [nrm] at h6
    refine tx ?_
    refine sr 1 ?_
    refine sgo ?_
    refine tr1 hRb fun w hM => ?_
    exact ⟨by rw [faultsNo, if_pos (by omega)], hM.below⟩
  try simp only [nrm] at h6
  refine tx ?_
  refine sr 1 ?_
  refine s1 (y_len_slice rfl rfl Tryz.underlying27) ?_
  refine sr 2 ?_
  refine sgo ?_
  refine T_cond rfl ?_ ?_ <;> intro h10
  · try simp only [nrm] at h10
    refine tx ?_
    refine sr 1 ?_
    refine sgo ?_
    refine tr1 hRb fun w hM => ?_
    exact ⟨by rw [faultsNo, if_neg (by omega), if_pos (by omega)], hM.below⟩
  try simp only [nrm] at h10
  refine kgs ?_
  refine tx ?_
  refine sr 1 ?_
  refine s1 (y_len_slice rfl rfl Tryz.underlying27) ?_
  refine sr 1 ?_
  refine sgo ?_
  refine T_block ?_
  refine lK1 (kf := [(2, 2), (4, 5), (16, 25)]) (kl := [(2, 2), (4, 5), (16, 25)]) (fun (i : Nat) => [(16, true, .int .i64 (i : Int))]) (fun (i : Nat) => []) (fun (i : Nat) => i ≤ l.q ∧ fltsNo l.l = fltsNo (l.l.drop i)) (fun (i : Nat) => l.q - i) 0 ?_ ?_ ?_ ?_
  · exact ⟨by omega, rfl⟩
  · exact ⟨rfl, trivial⟩
  · exact trivial
  rintro i ⟨hp1, hp2⟩
  refine tx ?_
  refine sr 1 ?_
  refine sgs ?_
  refine T_cond rfl ?_ ?_ <;> intro h17
  · try simp only [nrm] at h17
    obtain ⟨x, hx1, hx2⟩ := ht.at (i := i) (by omega)
    refine kgs ?_
    refine T_block ?_
    refine tx ?_
    refine s1 (y_indexAddr rfl rfl rfl Tryz.underlying27 sz100 (fun hg => ht.isSome (by omega)) (fun _ => by omega)) ?_
    refine s1 (y_loadT rfl rfl ht (fun _ => rfl) (fun _ => hx1) Tryz.underlying100 rfl sz100) ?_
    refine S_alloc 4 4 rfl rfl rfl rfl z100 ?_
    intro b4
    refine S_store 4 rfl rfl rfl rfl rfl rfl sz100 rfl rfl ?_
    refine sgx ?_
    refine s1 (yA 4 rfl Tryz.underlying100 sz100) ?_
    refine s1 (y_call rfl rfl rfl cf134 (fun _ w hM => CheckFault_any x w ((hl.n x (mem_at hx1)).below hM.below))) ?_
    refine sr 1 ?_
    refine sgx ?_
    refine sr 2 ?_
    refine sgo ?_
    refine T_cond rfl ?_ ?_ <;> intro h23
    · try simp only [nrm] at h23
      refine tx ?_
      refine sr 2 ?_
      refine sgo ?_
      refine tr1 hRb fun w hM => ?_
      exact ⟨by rw [faultsNo, if_neg (by omega), if_neg (by omega), hp2, hx2, fltsNo, if_pos h23], hM.below⟩
    try simp only [nrm] at h23
    refine kgr ?_
    refine s1 (y_bin rfl rfl rfl (fun hg => b_add (by omega))) ?_
    refine sr 1 ?_
    refine S_nil (nK1 (kf := [(2, 2), (4, 5), (16, 25)]) (kl := [(2, 2), (4, 5), (16, 25)]) (i + 1) ?_ ?_ ?_ ?_)
    · omega
    · exact ⟨by omega, by rw [hp2, hx2, fltsNo, if_neg (by simpa using h23)]⟩
    · exact ⟨rfl, trivial⟩
    · exact trivial
  try simp only [nrm] at h17
  refine egx ?_
  refine sr 1 ?_
  refine sgo ?_
  refine tr1 hRb fun w hM => ?_
  exact ⟨by rw [faultsNo, if_neg (by omega), if_neg (by omega), hp2, ht.end (by omega)]; rfl, hM.below⟩
theorem FaultsFault_any (l : Sl Flt) (w : World) (hl : FltsOk w l) :
    Calls Tryz.prog 39 #[.slice l.A l.q l.c] w fun e w' => e = .returned (.int .i64 (faultsNo l)) ∧ Below w.heap.size w w' := by
  have ht := hl.ok.t
  have hq := hl.q
  refine enter_args (args := [.slice l.A l.q l.c]) (F := _) Tryz.func39 rfl Tryz.ntmps39 rfl rfl ?_
  intro Rb hRb hRn
  refine tx ?_
  refine sr 1 ?_
  refine sgs ?_
  refine tx ?_
  refine sr 1 ?_
  refine s1 (y_len_slice rfl rfl Tryz.underlying27) ?_
  refine sr 1 ?_
  refine sgo ?_
  refine T_cond rfl ?_ ?_ <;> intro h10
  · try simp only [nrm] at h10
    refine tx ?_
    refine sr 1 ?_
    refine sgo ?_
    refine tr1 hRb fun w hM => ?_
    exact ⟨by rw [faultsNo, if_pos (by omega)], hM.below⟩
  try simp only [nrm] at h10
  refine kgs ?_
  refine tx ?_
  refine sr 1 ?_
  refine s1 (y_len_slice rfl rfl Tryz.underlying27) ?_
  refine sr 1 ?_
  refine sgo ?_
  refine T_cond rfl ?_ ?_ <;> intro h13
  · try simp only [nrm] at h13
    refine tx ?_
    refine sr 1 ?_
    refine sgo ?_
    refine tr1 hRb fun w hM => ?_
    exact ⟨by rw [faultsNo, if_neg (by omega), if_pos (by omega)], hM.below⟩
  try simp only [nrm] at h13
  refine kgs ?_
  refine tx ?_
  refine sr 1 ?_
  refine s1 (y_len_slice rfl rfl Tryz.underlying27) ?_
  refine sr 1 ?_
  refine sgo ?_
  refine T_block ?_
  refine lK1 (kf := [(2, 2), (4, 7), (16, 65)]) (kl := [(2, 2), (4, 7), (16, 65)]) (fun (i : Nat) => [(16, true, .int .i64 (i : Int))]) (fun (i : Nat) => []) (fun (i : Nat) => i ≤ l.q ∧ fltsNo l.l = fltsNo (l.l.drop i)) (fun (i : Nat) => l.q - i) 0 ?_ ?_ ?_ ?_
  · exact ⟨by omega, rfl⟩
  · exact ⟨rfl, trivial⟩
  · exact trivial
  rintro i ⟨hp1, hp2⟩
  refine tx ?_
  refine sr 1 ?_
  refine sgs ?_
  refine T_cond rfl ?_ ?_ <;> intro h17
  · try simp only [nrm] at h17
    obtain ⟨x, hx1, hx2⟩ := ht.at (i := i) (by omega)
    have hf := hl.n x (mem_at hx1)
    have hk := hf.k
    have htl := hf.t
    refine kgs ?_
    refine T_block ?_
    refine tx ?_
    refine s1 (y_indexAddr rfl rfl rfl Tryz.underlying27 sz100 (fun hg => ht.isSome (by omega)) (fun _ => by omega)) ?_
    refine s1 (y_loadT rfl rfl ht (fun _ => rfl) (fun _ => hx1) Tryz.underlying100 rfl sz100) ?_
    refine S_alloc 4 4 rfl rfl rfl rfl z100 ?_
    intro b4
    refine S_store 4 rfl rfl rfl rfl rfl rfl sz100 rfl rfl ?_
    refine sgs ?_
    refine tx ?_
    refine s1 (yF fa100_0) ?_
    refine s1 (yL 4 Tryz.underlying9) ?_
    refine s1 (y_len_str rfl rfl Tryz.underlying9) ?_
    refine sr 1 ?_
    refine sgo ?_
    refine T_cond rfl ?_ ?_ <;> intro h23
    · try simp only [nrm] at h23
      refine tx ?_
      refine sr 1 ?_
      refine sgo ?_
      refine tr1 hRb fun w hM => ?_
      exact ⟨by rw [faultsNo, if_neg (by omega), if_neg (by omega), hp2, hx2, fltsNo, show fltNo x = 4 from by rw [fltNo, if_pos (by omega)], if_pos (by decide)], hM.below⟩
    try simp only [nrm] at h23
    refine kgs ?_
    refine tx ?_
    refine s1 (yF fa100_0) ?_
    refine s1 (yL 4 Tryz.underlying9) ?_
    refine s1 (y_len_str rfl rfl Tryz.underlying9) ?_
    refine sr 1 ?_
    refine sgo ?_
    refine T_block ?_
    refine lK1 (kf := [(2, 2), (5, 5), (27, 49)]) (kl := [(2, 2), (5, 5), (27, 49)]) (fun (j : Nat) => [(27, true, .int .i64 (j : Int))]) (fun (j : Nat) => []) (fun (j : Nat) => j ≤ x.k.length ∧ wordOk [58] x.k = wordOk [58] (x.k.drop j)) (fun (j : Nat) => x.k.length - j) 0 ?_ ?_ ?_ ?_
    · exact ⟨by omega, rfl⟩
    · exact ⟨rfl, trivial⟩
    · exact trivial
    rintro j ⟨hr1, hr2⟩
    refine tx ?_
    refine sr 1 ?_
    refine sgs ?_
    refine T_cond rfl ?_ ?_ <;> intro h28
    · try simp only [nrm] at h28
      refine kgs ?_
      refine T_block ?_
      refine tx ?_
      refine sr 2 ?_
      refine sgx ?_
      refine s1 (yF fa100_0) ?_
      refine s1 (yL 4 Tryz.underlying9) ?_
      refine sr 1 ?_
      refine s1 (y_index_str rfl rfl rfl Tryz.underlying9 (fun _ => by omega)) ?_
      refine sr 2 ?_
      refine sg rfl (yF fa100_0) ?_
      refine sg rfl (yL 4 Tryz.underlying9) ?_
      refine sg rfl (y_move rfl rfl) ?_
      refine sg rfl (y_index_str rfl rfl rfl Tryz.underlying9 (fun hg => by simp only [Bool.true_and, Bool.and_eq_true, beq_iff_eq, decide_eq_true_eq, decide_eq_false_iff_not, Int.not_lt, Int.not_le] at hg; omega)) ?_
      refine sg rfl (y_bin rfl rfl rfl (fun _ => b_gtr)) ?_
      refine s1 (y_or rfl rfl rfl) ?_
      refine sr 1 ?_
      refine sg rfl (yF fa100_0) ?_
      refine sg rfl (yL 4 Tryz.underlying9) ?_
      refine sg rfl (y_move rfl rfl) ?_
      refine sg rfl (y_index_str rfl rfl rfl Tryz.underlying9 (fun hg => by simp only [Bool.true_and, Bool.and_eq_true, beq_iff_eq, decide_eq_true_eq, decide_eq_false_iff_not, Int.not_lt, Int.not_le] at hg; omega)) ?_
      refine sg rfl (y_bin rfl rfl rfl (fun _ => b_eql)) ?_
      refine s1 (y_as (v' := .bool (byteBad [58] (x.k.getD j 0))) (by rw [one58]) (y_or rfl rfl rfl)) ?_
      refine sgo ?_
      refine T_cond rfl ?_ ?_ <;> intro h48
      · skip
        refine tx ?_
        refine sr 1 ?_
        refine sgo ?_
        refine tr1 hRb fun w hM => ?_
        exact ⟨by rw [faultsNo, if_neg (by omega), if_neg (by omega), hp2, hx2, fltsNo, show fltNo x = 9 from by rw [fltNo, if_neg (by omega), if_pos (by rw [hr2, drop_str (by omega), wordOk_bad h48])], if_pos (by decide)], hM.below⟩
      refine kgr ?_
      refine s1 (y_bin rfl rfl rfl (fun hg => b_add (by omega))) ?_
      refine sr 1 ?_
      refine S_nil (nK1 (kf := [(2, 2), (5, 5), (27, 49)]) (kl := [(2, 2), (5, 5), (27, 49)]) (j + 1) ?_ ?_ ?_ ?_)
      · omega
      · exact ⟨by omega, by rw [hr2, drop_str (by omega), wordOk_next h48]⟩
      · exact ⟨rfl, trivial⟩
      · exact trivial
    try simp only [nrm] at h28
    have hw : wordOk [58] x.k = true := by rw [hr2, List.drop_eq_nil_of_le (by omega)]; rfl
    refine egs ?_
    refine tx ?_
    refine s1 (yF fa100_0) ?_
    refine s1 (yL 4 Tryz.underlying9) ?_
    refine s1 (y_bin rfl rfl rfl (fun _ => b_eqls)) ?_
    refine sgo ?_
    refine T_cond rfl ?_ ?_ <;> intro h52
    · try simp only [nrm] at h52
      refine tx ?_
      refine sr 1 ?_
      refine sgo ?_
      refine tr1 hRb fun w hM => ?_
      exact ⟨by rw [faultsNo, if_neg (by omega), if_neg (by omega), hp2, hx2, fltsNo, show fltNo x = 1 from by rw [fltNo, if_neg (by omega), if_neg (by rw [hw]; simp), if_pos h52], if_pos (by decide)], hM.below⟩
    try simp only [nrm] at h52
    refine kgs ?_
    refine tx ?_
    refine s1 (yF fa100_1) ?_
    refine s1 (yL 4 Tryz.underlying9) ?_
    refine s1 (y_call rfl rfl rfl cf43 (fun _ w _ => sayFault_any _ (by first | omega | (simp; done) | (simp; omega) | (simp only; omega)) w)) ?_
    refine sr 1 ?_
    refine sgx ?_
    refine sr 2 ?_
    refine sgo ?_
    refine T_cond rfl ?_ ?_ <;> intro h57
    · try simp only [nrm] at h57
      refine tx ?_
      refine sr 2 ?_
      refine sgo ?_
      refine tr1 hRb fun w hM => ?_
      exact ⟨by rw [faultsNo, if_neg (by omega), if_neg (by omega), hp2, hx2, fltsNo, fltNo_say (by omega) hw h52 rfl h57, if_pos h57], hM.below⟩
    try simp only [nrm] at h57
    refine kgx ?_
    refine s1 (yF fa100_2) ?_
    refine s1 (yL 4 Tryz.underlying98) ?_
    refine s1 (y_call rfl rfl rfl cf83 (fun _ w hM => FramesFault_any _ w (hf.fr.below hM.below))) ?_
    refine sr 1 ?_
    refine sgx ?_
    refine sr 2 ?_
    refine sgo ?_
    refine T_cond rfl ?_ ?_ <;> intro h63
    · try simp only [nrm] at h63
      refine tx ?_
      refine sr 2 ?_
      refine sgo ?_
      refine tr1 hRb fun w hM => ?_
      exact ⟨by rw [faultsNo, if_neg (by omega), if_neg (by omega), hp2, hx2, fltsNo, fltNo_frs (by omega) hw h52 (by simpa using h57), if_pos h63], hM.below⟩
    try simp only [nrm] at h63
    refine kgr ?_
    refine s1 (y_bin rfl rfl rfl (fun hg => b_add (by omega))) ?_
    refine sr 1 ?_
    refine S_nil (nK1 (kf := [(2, 2), (4, 7), (16, 65)]) (kl := [(2, 2), (4, 7), (16, 65)]) (i + 1) ?_ ?_ ?_ ?_)
    · omega
    · exact ⟨by omega, by rw [hp2, hx2, fltsNo, if_neg (by rw [fltNo_frs (by omega) hw h52 (by simpa using h57)]; simpa using h63)]⟩
    · exact ⟨rfl, trivial⟩
    · exact trivial
  try simp only [nrm] at h17
  refine egx ?_
  refine sr 1 ?_
  refine sgo ?_
  refine tr1 hRb fun w hM => ?_
  exact ⟨by rw [faultsNo, if_neg (by omega), if_neg (by omega), hp2, ht.end (by omega)]; rfl, hM.below⟩
theorem checkTags_any (l : Sl STag) (w : World) (hl : TagsOk w l) :
    Calls Tryz.prog 87 #[.slice l.A l.q l.c] w fun e w' => e = .returned (.int .i64 (if (40 : Int) < l.q then 4 else tagsNo none l.l)) ∧ Below w.heap.size w w' := by
  have ht := hl.ok.t
  have hq := hl.q
  refine enter_args (args := [.slice l.A l.q l.c]) (F := _) Tryz.func87 rfl Tryz.ntmps87 rfl rfl ?_
  intro Rb hRb hRn
  refine tx ?_
  refine sr 1 ?_
  refine sgs ?_
  refine tx ?_
  refine sr 1 ?_
  refine s1 (y_len_slice rfl rfl Tryz.underlying28) ?_
  refine sr 1 ?_
  refine sgo ?_
  refine T_cond rfl ?_ ?_ <;> intro h8
  · try simp only [nrm] at h8
    refine tx ?_
    refine sr 1 ?_
    refine sgo ?_
    refine tr1 hRb fun w hM => ?_
    exact ⟨by rw [if_pos (by omega)], hM.below⟩
  try simp only [nrm] at h8
  refine kgs ?_
  refine tx ?_
  refine sr 1 ?_
  refine s1 (y_len_slice rfl rfl Tryz.underlying28) ?_
  refine sr 1 ?_
  refine sgo ?_
  refine T_block ?_
  refine lK2 (kf := [(2, 5), (11, 39)]) (kl := [(2, 5), (11, 39)]) (fun (i : Nat) (b : STag) => [(11, true, .int .i64 (i : Int))]) (fun (i : Nat) (b : STag) => []) (fun (i : Nat) (b : STag) => i ≤ l.q ∧ tagsNo none l.l = tagsNo (prevN i b) (l.l.drop i) ∧ (0 < i → l.l[i - 1]? = some b)) (fun (i : Nat) (b : STag) => l.q - i) 0 ⟨[], []⟩ ?_ ?_ ?_ ?_
  · exact ⟨by omega, rfl, by omega⟩
  · exact ⟨rfl, trivial⟩
  · exact trivial
  rintro i b ⟨hp1, hp2, hp3⟩
  refine tx ?_
  refine sr 1 ?_
  refine sgs ?_
  refine T_cond rfl ?_ ?_ <;> intro h12
  · try simp only [nrm] at h12
    obtain ⟨x, hx1, hx2⟩ := ht.at (i := i) (by omega)
    have hn := hl.n x (mem_at hx1)
    have hn2 := hn.2
    refine kgs ?_
    refine T_block ?_
    refine tx ?_
    refine sr 1 ?_
    refine s1 (y_indexAddr rfl rfl rfl Tryz.underlying28 sz92 (fun hg => ht.isSome (by omega)) (fun _ => by omega)) ?_
    refine s1 (y_loadT rfl rfl ht (fun _ => rfl) (fun _ => hx1) Tryz.underlying92 rfl sz92) ?_
    refine S_alloc 4 4 rfl rfl rfl rfl z92 ?_
    intro b4
    refine sr 1 ?_
    refine S_store 4 rfl rfl rfl rfl rfl rfl sz92 rfl rfl ?_
    refine sgs ?_
    refine tx ?_
    refine s1 (yF fa92_0) ?_
    refine s1 (yL 4 Tryz.underlying9) ?_
    refine s1 (y_call rfl rfl rfl cf67 (fun _ w _ => IsName_any _ w)) ?_
    refine sr 1 ?_
    refine sgo ?_
    refine T_cond rfl ?_ ?_ <;> intro h19
    · try simp only [nrm] at h19
      refine tx ?_
      refine sr 1 ?_
      refine sgo ?_
      refine tr1 hRb fun w hM => ?_
      exact ⟨by rw [if_neg (by omega), hp2, hx2, tagsNo, if_pos h19], hM.below⟩
    try simp only [nrm] at h19
    refine kgs ?_
    refine T_seq ?_
    refine T_draws (by kernel_rfl) (by kernel_rfl) ?_
    refine d1 (y_move rfl rfl) ?_
    refine d1 (y_bin rfl rfl rfl (fun _ => b_gtr)) ?_
    refine d1 (y_move rfl rfl) ?_
    refine dg rfl (yF fa92_0) ?_
    refine dg rfl (yL 4 Tryz.underlying9) ?_
    refine dg rfl (y_move rfl rfl) ?_
    refine dg rfl (y_move rfl rfl) ?_
    refine dg rfl (y_bin rfl rfl rfl (fun hg => b_subv (((i - 1 : Nat) : Int)) (by simp only [Bool.true_and, Bool.and_eq_true, beq_iff_eq, decide_eq_true_eq, decide_eq_false_iff_not, Int.not_lt, Int.not_le] at hg; omega) (by simp only [Bool.true_and, Bool.and_eq_true, beq_iff_eq, decide_eq_true_eq, decide_eq_false_iff_not, Int.not_lt, Int.not_le] at hg; omega))) ?_
    refine dg rfl (y_indexAddr rfl rfl rfl Tryz.underlying28 sz92 (fun hg => ht.isSome (by simp only [Bool.true_and, Bool.and_eq_true, beq_iff_eq, decide_eq_true_eq, decide_eq_false_iff_not, Int.not_lt, Int.not_le] at hg; omega)) (fun hg => by simp only [Bool.true_and, Bool.and_eq_true, beq_iff_eq, decide_eq_true_eq, decide_eq_false_iff_not, Int.not_lt, Int.not_le] at hg; omega)) ?_
    refine dg rfl (y_fieldEl rfl rfl ht.rd (fun hg => by simp only [Bool.true_and, Bool.and_eq_true, beq_iff_eq, decide_eq_true_eq, decide_eq_false_iff_not, Int.not_lt, Int.not_le] at hg; omega) fa92_0) ?_
    refine dg rfl (y_load_fT rfl rfl ht (fun _ => rfl) (fun hg => hp3 (by simp only [Bool.true_and, Bool.and_eq_true, beq_iff_eq, decide_eq_true_eq, decide_eq_false_iff_not, Int.not_lt, Int.not_le] at hg; omega)) rfl Tryz.underlying9 rfl) ?_
    refine dg rfl (y_bin rfl rfl rfl (fun _ => b_leqs)) ?_
    refine d1 (y_as (v' := .bool ((prevN i b).any fun s => Op.bytesLess x.n s || decide (x.n = s))) (by rw [prevN_any]) (y_and rfl rfl rfl)) ?_
    refine dgo ?_
    refine T_cond rfl ?_ ?_ <;> intro h32
    · skip
      refine tx ?_
      refine sr 1 ?_
      refine sgo ?_
      refine tr1 hRb fun w hM => ?_
      exact ⟨by rw [if_neg (by omega), hp2, hx2, tagsNo, if_neg (by rw [h19]; simp), if_t h32], hM.below⟩
    refine kgx ?_
    refine s1 (yF fa92_1) ?_
    refine s1 (yL 4 Tryz.underlying9) ?_
    refine s1 (y_call rfl rfl rfl cf89 (fun _ w _ => checkValue_any _ (by first | omega | (simp; done) | (simp; omega) | (simp only; omega)) w)) ?_
    refine sr 1 ?_
    refine sgx ?_
    refine sr 2 ?_
    refine sgo ?_
    refine T_cond rfl ?_ ?_ <;> intro h37
    · try simp only [nrm] at h37
      refine tx ?_
      refine sr 2 ?_
      refine sgo ?_
      refine tr1 hRb fun w hM => ?_
      exact ⟨by rw [if_neg (by omega), hp2, hx2, tagsNo, if_neg (by rw [h19]; simp), if_f h32, if_pos h37], hM.below⟩
    try simp only [nrm] at h37
    refine kgr ?_
    refine s1 (y_bin rfl rfl rfl (fun hg => b_add (by omega))) ?_
    refine sr 1 ?_
    refine S_nil (nK2 (kf := [(2, 5), (11, 39)]) (kl := [(2, 5), (11, 39)]) (i + 1) x ?_ ?_ ?_ ?_)
    · omega
    · exact ⟨by omega, by rw [hp2, hx2, tagsNo, if_neg (by rw [h19]; simp), if_f h32, if_neg (by simpa using h37)]; rfl, fun _ => hx1⟩
    · exact ⟨rfl, trivial⟩
    · exact trivial
  try simp only [nrm] at h12
  refine egx ?_
  refine sr 1 ?_
  refine sgo ?_
  refine tr1 hRb fun w hM => ?_
  exact ⟨by rw [if_neg (by omega), hp2, ht.end (by omega), tagsNo_nil], hM.below⟩
theorem checkCrumbs_any (l : Sl SCrumb) (w : World) (hl : CrumbsOk w l) :
    Calls Tryz.prog 88 #[.slice l.A l.q l.c] w fun e w' => e = .returned (.int .i64 (if (50 : Int) < l.q then 4 else crumbsNo none l.l)) ∧ Below w.heap.size w w' := by
  have ht := hl.ok.t
  have hq := hl.q
  refine enter_args (args := [.slice l.A l.q l.c]) (F := _) Tryz.func88 rfl Tryz.ntmps88 rfl rfl ?_
  intro Rb hRb hRn
  refine tx ?_
  refine sr 1 ?_
  refine sgs ?_
  refine tx ?_
  refine sr 1 ?_
  refine s1 (y_len_slice rfl rfl Tryz.underlying29) ?_
  refine sr 1 ?_
  refine sgo ?_
  refine T_cond rfl ?_ ?_ <;> intro h8
  · try simp only [nrm] at h8
    refine tx ?_
    refine sr 1 ?_
    refine sgo ?_
    refine tr1 hRb fun w hM => ?_
    exact ⟨by rw [if_pos (by omega)], hM.below⟩
  try simp only [nrm] at h8
  refine kgs ?_
  refine tx ?_
  refine sr 1 ?_
  refine s1 (y_len_slice rfl rfl Tryz.underlying29) ?_
  refine sr 1 ?_
  refine sgo ?_
  refine T_block ?_
  refine lK2 (kf := [(2, 5), (11, 45)]) (kl := [(2, 5), (11, 45)]) (fun (i : Nat) (b : SCrumb) => [(11, true, .int .i64 (i : Int))]) (fun (i : Nat) (b : SCrumb) => []) (fun (i : Nat) (b : SCrumb) => i ≤ l.q ∧ crumbsNo none l.l = crumbsNo (prevA i b) (l.l.drop i) ∧ (0 < i → l.l[i - 1]? = some b)) (fun (i : Nat) (b : SCrumb) => l.q - i) 0 ⟨0, [], []⟩ ?_ ?_ ?_ ?_
  · exact ⟨by omega, rfl, by omega⟩
  · exact ⟨rfl, trivial⟩
  · exact trivial
  rintro i b ⟨hp1, hp2, hp3⟩
  refine tx ?_
  refine sr 1 ?_
  refine sgs ?_
  refine T_cond rfl ?_ ?_ <;> intro h12
  · try simp only [nrm] at h12
    obtain ⟨x, hx1, hx2⟩ := ht.at (i := i) (by omega)
    have hn := hl.n x (mem_at hx1)
    have hn2 := hn.2
    refine kgs ?_
    refine T_block ?_
    refine tx ?_
    refine sr 1 ?_
    refine s1 (y_indexAddr rfl rfl rfl Tryz.underlying29 sz95 (fun hg => ht.isSome (by omega)) (fun _ => by omega)) ?_
    refine s1 (y_loadT rfl rfl ht (fun _ => rfl) (fun _ => hx1) Tryz.underlying95 rfl sz95) ?_
    refine S_alloc 4 4 rfl rfl rfl rfl z95 ?_
    intro b4
    refine sr 1 ?_
    refine S_store 4 rfl rfl rfl rfl rfl rfl sz95 rfl rfl ?_
    refine sgs ?_
    refine T_block ?_
    refine tx ?_
    refine s1 (yF fa95_0) ?_
    refine s1 (yL 4 Tryz.underlying3) ?_
    refine s1 (y_call rfl rfl rfl cf90 (fun _ w _ => eoutside_any _ _ _ w)) ?_
    refine sr 1 ?_
    refine sgo ?_
    refine T_cond rfl ?_ ?_ <;> intro h16
    · skip
      refine tx ?_
      refine sr 1 ?_
      refine sgo ?_
      refine tr1 hRb fun w hM => ?_
      exact ⟨by rw [if_neg (by omega), hp2, hx2, crumbsNo, if_t h16], hM.below⟩
    refine T_seq ?_
    refine T_draws (by kernel_rfl) (by kernel_rfl) ?_
    refine d1 (y_move rfl rfl) ?_
    refine d1 (y_bin rfl rfl rfl (fun _ => b_gtr)) ?_
    refine d1 (y_move rfl rfl) ?_
    refine dg rfl (yF fa95_0) ?_
    refine dg rfl (yL 4 Tryz.underlying3) ?_
    refine dg rfl (y_move rfl rfl) ?_
    refine dg rfl (y_move rfl rfl) ?_
    refine dg rfl (y_bin rfl rfl rfl (fun hg => b_subv (((i - 1 : Nat) : Int)) (by simp only [Bool.true_and, Bool.and_eq_true, beq_iff_eq, decide_eq_true_eq, decide_eq_false_iff_not, Int.not_lt, Int.not_le] at hg; omega) (by simp only [Bool.true_and, Bool.and_eq_true, beq_iff_eq, decide_eq_true_eq, decide_eq_false_iff_not, Int.not_lt, Int.not_le] at hg; omega))) ?_
    refine dg rfl (y_indexAddr rfl rfl rfl Tryz.underlying29 sz95 (fun hg => ht.isSome (by simp only [Bool.true_and, Bool.and_eq_true, beq_iff_eq, decide_eq_true_eq, decide_eq_false_iff_not, Int.not_lt, Int.not_le] at hg; omega)) (fun hg => by simp only [Bool.true_and, Bool.and_eq_true, beq_iff_eq, decide_eq_true_eq, decide_eq_false_iff_not, Int.not_lt, Int.not_le] at hg; omega)) ?_
    refine dg rfl (y_fieldEl rfl rfl ht.rd (fun hg => by simp only [Bool.true_and, Bool.and_eq_true, beq_iff_eq, decide_eq_true_eq, decide_eq_false_iff_not, Int.not_lt, Int.not_le] at hg; omega) fa95_0) ?_
    refine dg rfl (y_load_fT rfl rfl ht (fun _ => rfl) (fun hg => hp3 (by simp only [Bool.true_and, Bool.and_eq_true, beq_iff_eq, decide_eq_true_eq, decide_eq_false_iff_not, Int.not_lt, Int.not_le] at hg; omega)) rfl Tryz.underlying3 rfl) ?_
    refine dg rfl (y_bin rfl rfl rfl (fun _ => b_lss)) ?_
    refine d1 (y_as (v' := .bool ((prevA i b).any fun n => decide (x.at_ < n))) (by rw [prevA_any]) (y_and rfl rfl rfl)) ?_
    refine d1 (y_assign rfl rfl) ?_
    refine dgo ?_
    refine T_cond rfl ?_ ?_ <;> intro h20
    · skip
      refine tx ?_
      refine sr 1 ?_
      refine sgo ?_
      refine tr1 hRb fun w hM => ?_
      exact ⟨by rw [if_neg (by omega), hp2, hx2, crumbsNo, if_f h16, if_t h20], hM.below⟩
    refine tx ?_
    refine s1 (yF fa95_1) ?_
    refine s1 (yL 4 Tryz.underlying9) ?_
    refine s1 (y_call rfl rfl rfl cf67 (fun _ w _ => IsName_any _ w)) ?_
    refine sr 2 ?_
    refine sgo ?_
    refine T_cond rfl ?_ ?_ <;> intro h34
    · try simp only [nrm] at h34
      refine tx ?_
      refine sr 1 ?_
      refine sgo ?_
      refine tr1 hRb fun w hM => ?_
      exact ⟨by rw [if_neg (by omega), hp2, hx2, crumbsNo, if_f h16, if_f h20, if_pos h34], hM.below⟩
    try simp only [nrm] at h34
    refine kgx ?_
    refine s1 (yF fa95_2) ?_
    refine s1 (yL 4 Tryz.underlying9) ?_
    refine s1 (y_call rfl rfl rfl cf135 (fun _ w _ => checkSay_any _ (by first | omega | (simp; done) | (simp; omega) | (simp only; omega)) w)) ?_
    refine sr 1 ?_
    refine sgx ?_
    refine sr 2 ?_
    refine sgo ?_
    refine T_cond rfl ?_ ?_ <;> intro h43
    · try simp only [nrm] at h43
      refine tx ?_
      refine sr 2 ?_
      refine sgo ?_
      refine tr1 hRb fun w hM => ?_
      exact ⟨by rw [if_neg (by omega), hp2, hx2, crumbsNo, if_f h16, if_f h20, if_neg (by rw [h34]; simp), if_pos h43], hM.below⟩
    try simp only [nrm] at h43
    refine kgr ?_
    refine s1 (y_bin rfl rfl rfl (fun hg => b_add (by omega))) ?_
    refine sr 1 ?_
    refine S_nil (nK2 (kf := [(2, 5), (11, 45)]) (kl := [(2, 5), (11, 45)]) (i + 1) x ?_ ?_ ?_ ?_)
    · omega
    · exact ⟨by omega, by rw [hp2, hx2, crumbsNo, if_f h16, if_f h20, if_neg (by rw [h34]; simp), if_neg (by simpa using h43)]; rfl, fun _ => hx1⟩
    · exact ⟨rfl, trivial⟩
    · exact trivial
  try simp only [nrm] at h12
  refine egx ?_
  refine sr 1 ?_
  refine sgo ?_
  refine tr1 hRb fun w hM => ?_
  exact ⟨by rw [if_neg (by omega), hp2, ht.end (by omega), crumbsNo_nil], hM.below⟩
theorem checkHead_any (e : Evt) (w : World) :
    Calls Tryz.prog 85 #[e.val] w fun en w' => en = .returned (.int .i64 (headNo e.id e.at_ e.lv)) ∧ Below w.heap.size w w' := by
  refine enter_args (args := [.agg #[str e.id, .int .i64 e.at_, .int .i64 e.lv, .slice e.fa.A e.fa.q e.fa.c, .slice e.ta.A e.ta.q e.ta.c, .slice e.cr.A e.cr.q e.cr.c, str e.rel, str e.us, .int .i64 e.wt]]) (F := _) Tryz.func85 rfl Tryz.ntmps85 rfl rfl ?_
  intro Rb hRb hRn
  refine tx ?_
  refine S_box 1 1 rfl rfl rfl rfl rfl ?_
  intro b1
  refine sr 1 ?_
  refine sgs ?_
  refine tx ?_
  refine s1 (yF fa31_0) ?_
  refine s1 (yL 1 Tryz.underlying9) ?_
  refine s1 (y_call rfl rfl rfl cf133 (fun _ w _ => isDigest_any _ w)) ?_
  refine sr 1 ?_
  refine sgo ?_
  refine T_cond rfl ?_ ?_ <;> intro h6
  · try simp only [nrm] at h6
    refine tx ?_
    refine sr 1 ?_
    refine sgo ?_
    refine tr1 hRb fun w hM => ?_
    exact ⟨by rw [headNo, if_pos h6], hM.below⟩
  try simp only [nrm] at h6
  refine kgs ?_
  refine tx ?_
  refine s1 (yF fa31_1) ?_
  refine s1 (yL 1 Tryz.underlying3) ?_
  refine s1 (y_call rfl rfl rfl cf90 (fun _ w _ => eoutside_any _ _ _ w)) ?_
  refine sr 1 ?_
  refine sg rfl (yF fa31_2) ?_
  refine sg rfl (yL 1 Tryz.underlying3) ?_
  refine sg rfl (y_call rfl rfl rfl cf90 (fun _ w _ => eoutside_any _ _ _ w)) ?_
  refine s1 (y_or rfl rfl rfl) ?_
  refine sgo ?_
  refine T_cond rfl ?_ ?_ <;> intro h14
  · skip
    refine tx ?_
    refine sr 1 ?_
    refine sgo ?_
    refine tr1 hRb fun w hM => ?_
    exact ⟨by rw [headNo, if_neg (by rw [h6]; simp), if_t h14], hM.below⟩
  refine kgx ?_
  refine sr 1 ?_
  refine sgo ?_
  refine tr1 hRb fun w hM => ?_
  exact ⟨by rw [headNo, if_neg (by rw [h6]; simp), if_f h14], hM.below⟩
theorem HeadFault_any (e : Evt) (w : World) :
    Calls Tryz.prog 38 #[e.val] w fun en w' => en = .returned (.int .i64 (headNo e.id e.at_ e.lv)) ∧ Below w.heap.size w w' := by
  refine enter_args (args := [.agg #[str e.id, .int .i64 e.at_, .int .i64 e.lv, .slice e.fa.A e.fa.q e.fa.c, .slice e.ta.A e.ta.q e.ta.c, .slice e.cr.A e.cr.q e.cr.c, str e.rel, str e.us, .int .i64 e.wt]]) (F := _) Tryz.func38 rfl Tryz.ntmps38 rfl rfl ?_
  intro Rb hRb hRn
  refine tx ?_
  refine S_box 1 1 rfl rfl rfl rfl rfl ?_
  intro b1
  refine sr 1 ?_
  refine sgs ?_
  refine T_block ?_
  refine tx ?_
  refine s1 (yF fa31_0) ?_
  refine s1 (yL 1 Tryz.underlying9) ?_
  refine s1 (y_call rfl rfl rfl cf82 (fun _ w _ => digits16_any _ w)) ?_
  refine sr 2 ?_
  refine sgo ?_
  refine T_cond rfl ?_ ?_ <;> intro h3
  · try simp only [nrm] at h3
    refine tx ?_
    refine sr 1 ?_
    refine sgo ?_
    refine tr1 hRb fun w hM => ?_
    exact ⟨by rw [headNo, if_pos h3], hM.below⟩
  try simp only [nrm] at h3
  refine tx ?_
  refine s1 (yF fa31_1) ?_
  refine s1 (yL 1 Tryz.underlying3) ?_
  refine s1 (y_call rfl rfl rfl cf42 (fun _ w _ => out_any _ _ _ w)) ?_
  refine sr 1 ?_
  refine sg rfl (yF fa31_2) ?_
  refine sg rfl (yL 1 Tryz.underlying3) ?_
  refine sg rfl (y_call rfl rfl rfl cf42 (fun _ w _ => out_any _ _ _ w)) ?_
  refine s1 (y_or rfl rfl rfl) ?_
  refine sr 1 ?_
  refine sgo ?_
  refine T_cond rfl ?_ ?_ <;> intro h8
  · skip
    refine tx ?_
    refine sr 1 ?_
    refine sgo ?_
    refine tr1 hRb fun w hM => ?_
    exact ⟨by rw [headNo, if_neg (by rw [h3]; simp), if_t h8], hM.below⟩
  refine kgx ?_
  refine sr 1 ?_
  refine sgo ?_
  refine tr1 hRb fun w hM => ?_
  exact ⟨by rw [headNo, if_neg (by rw [h3]; simp), if_f h8], hM.below⟩
theorem Check_any (e : Evt) (w : World) (he : e.Ok w) :
    Calls Tryz.prog 44 #[e.val] w fun en w' => en = .returned (.int .i64 (evNo e)) ∧ Below w.heap.size w w' := by
  have hus := he.us
  refine enter_args (args := [.agg #[str e.id, .int .i64 e.at_, .int .i64 e.lv, .slice e.fa.A e.fa.q e.fa.c, .slice e.ta.A e.ta.q e.ta.c, .slice e.cr.A e.cr.q e.cr.c, str e.rel, str e.us, .int .i64 e.wt]]) (F := _) Tryz.func44 rfl Tryz.ntmps44 rfl rfl ?_
  intro Rb hRb hRn
  refine tx ?_
  refine S_box 1 1 rfl rfl rfl rfl rfl ?_
  intro b1
  refine sr 1 ?_
  refine sgs ?_
  refine tx ?_
  refine s1 (yA 1 rfl Tryz.underlying31 sz31) ?_
  refine s1 (y_call rfl rfl rfl cf85 (fun _ w _ => checkHead_any e w)) ?_
  refine sr 1 ?_
  refine sgx ?_
  refine sr 2 ?_
  refine sgo ?_
  refine T_cond rfl ?_ ?_ <;> intro h11
  · try simp only [nrm] at h11
    refine tx ?_
    refine sr 2 ?_
    refine sgo ?_
    refine tr1 hRb fun w hM => ?_
    exact ⟨by rw [evNo, fst_t h11], hM.below⟩
  try simp only [nrm] at h11
  refine kgs ?_
  refine tx ?_
  refine s1 (yF fa31_3) ?_
  refine s1 (yL 1 Tryz.underlying27) ?_
  refine s1 (y_call rfl rfl rfl cf86 (fun _ w hM => sCheck_any e.fa w (he.fa.below hM.below))) ?_
  refine sr 1 ?_
  refine sgx ?_
  refine sr 2 ?_
  refine sgo ?_
  refine T_cond rfl ?_ ?_ <;> intro h17
  · try simp only [nrm] at h17
    refine tx ?_
    refine sr 2 ?_
    refine sgo ?_
    refine tr1 hRb fun w hM => ?_
    exact ⟨by rw [evNo, fst_f h11, fst_t h17], hM.below⟩
  try simp only [nrm] at h17
  refine kgs ?_
  refine tx ?_
  refine s1 (yF fa31_4) ?_
  refine s1 (yL 1 Tryz.underlying28) ?_
  refine s1 (y_call rfl rfl rfl cf87 (fun _ w hM => checkTags_any e.ta w (he.ta.below hM.below))) ?_
  refine sr 1 ?_
  refine sgx ?_
  refine sr 2 ?_
  refine sgo ?_
  refine T_cond rfl ?_ ?_ <;> intro h23
  · try simp only [nrm] at h23
    refine tx ?_
    refine sr 2 ?_
    refine sgo ?_
    refine tr1 hRb fun w hM => ?_
    exact ⟨by rw [evNo, fst_f h11, fst_f h17, fst_t h23], hM.below⟩
  try simp only [nrm] at h23
  refine kgs ?_
  refine tx ?_
  refine s1 (yF fa31_5) ?_
  refine s1 (yL 1 Tryz.underlying29) ?_
  refine s1 (y_call rfl rfl rfl cf88 (fun _ w hM => checkCrumbs_any e.cr w (he.cr.below hM.below))) ?_
  refine sr 1 ?_
  refine sgx ?_
  refine sr 2 ?_
  refine sgo ?_
  refine T_cond rfl ?_ ?_ <;> intro h29
  · try simp only [nrm] at h29
    refine tx ?_
    refine sr 2 ?_
    refine sgo ?_
    refine tr1 hRb fun w hM => ?_
    exact ⟨by rw [evNo, fst_f h11, fst_f h17, fst_f h23, fst_t h29], hM.below⟩
  try simp only [nrm] at h29
  refine kgs ?_
  refine tx ?_
  refine s1 (yF fa31_6) ?_
  refine s1 (yL 1 Tryz.underlying9) ?_
  refine s1 (y_bin rfl rfl rfl (fun _ => b_neqs)) ?_
  refine sr 1 ?_
  refine sg rfl (yF fa31_6) ?_
  refine sg rfl (yL 1 Tryz.underlying9) ?_
  refine sg rfl (y_call rfl rfl rfl cf67 (fun _ w _ => IsName_any _ w)) ?_
  refine sg rfl (y_not rfl rfl) ?_
  refine s1 (y_and rfl rfl rfl) ?_
  refine sgo ?_
  refine T_cond rfl ?_ ?_ <;> intro h39
  · skip
    refine tx ?_
    refine sr 1 ?_
    refine sgo ?_
    refine tr1 hRb fun w hM => ?_
    exact ⟨by rw [evNo, fst_f h11, fst_f h17, fst_f h23, fst_f h29, if_t h39], hM.below⟩
  refine kgs ?_
  refine tx ?_
  refine s1 (yF fa31_7) ?_
  refine s1 (yL 1 Tryz.underlying9) ?_
  refine s1 (y_call rfl rfl rfl cf89 (fun _ w _ => checkValue_any _ (by first | omega | (simp; done) | (simp; omega) | (simp only; omega)) w)) ?_
  refine sr 1 ?_
  refine sgx ?_
  refine sr 2 ?_
  refine sgo ?_
  refine T_cond rfl ?_ ?_ <;> intro h44
  · try simp only [nrm] at h44
    refine tx ?_
    refine sr 2 ?_
    refine sgo ?_
    refine tr1 hRb fun w hM => ?_
    exact ⟨by rw [evNo, fst_f h11, fst_f h17, fst_f h23, fst_f h29, if_f h39, fst_t h44], hM.below⟩
  try simp only [nrm] at h44
  refine kgs ?_
  refine tx ?_
  refine s1 (yF fa31_8) ?_
  refine s1 (yL 1 Tryz.underlying3) ?_
  refine s1 (y_call rfl rfl rfl cf90 (fun _ w _ => eoutside_any _ _ _ w)) ?_
  refine sgo ?_
  refine T_cond rfl ?_ ?_ <;> intro h48
  · skip
    refine tx ?_
    refine sr 1 ?_
    refine sgo ?_
    refine tr1 hRb fun w hM => ?_
    exact ⟨by rw [evNo, fst_f h11, fst_f h17, fst_f h23, fst_f h29, if_f h39, fst_f h44, if_t h48], hM.below⟩
  refine kgx ?_
  refine sr 1 ?_
  refine sgo ?_
  refine tr1 hRb fun w hM => ?_
  exact ⟨by rw [evNo, fst_f h11, fst_f h17, fst_f h23, fst_f h29, if_f h39, fst_f h44, if_f h48], hM.below⟩
theorem EventFault_any (e : Evt) (w : World) (he : e.Ok w) :
    Calls Tryz.prog 9 #[e.val] w fun en w' => en = .returned (.int .i64 (evNo e)) ∧ Below w.heap.size w w' := by
  have hus := he.us
  have ht := he.ta.ok.t
  have hq := he.ta.q
  have hu := he.cr.ok.t
  have hr := he.cr.q
  refine enter_args (args := [.agg #[str e.id, .int .i64 e.at_, .int .i64 e.lv, .slice e.fa.A e.fa.q e.fa.c, .slice e.ta.A e.ta.q e.ta.c, .slice e.cr.A e.cr.q e.cr.c, str e.rel, str e.us, .int .i64 e.wt]]) (F := _) Tryz.func9 rfl Tryz.ntmps9 rfl rfl ?_
  intro Rb hRb hRn
  refine tx ?_
  refine S_box 1 1 rfl rfl rfl rfl rfl ?_
  intro b1
  refine sr 1 ?_
  refine sgs ?_
  refine tx ?_
  refine s1 (yA 1 rfl Tryz.underlying31 sz31) ?_
  refine s1 (y_call rfl rfl rfl cf38 (fun _ w _ => HeadFault_any e w)) ?_
  refine sr 1 ?_
  refine sgx ?_
  refine sr 2 ?_
  refine sgo ?_
  refine T_cond rfl ?_ ?_ <;> intro h15
  · try simp only [nrm] at h15
    refine tx ?_
    refine sr 2 ?_
    refine sgo ?_
    refine tr1 hRb fun w hM => ?_
    exact ⟨by rw [evNo, fst_t h15], hM.below⟩
  try simp only [nrm] at h15
  refine kgs ?_
  refine tx ?_
  refine s1 (yF fa31_3) ?_
  refine s1 (yL 1 Tryz.underlying27) ?_
  refine s1 (y_call rfl rfl rfl cf39 (fun _ w hM => FaultsFault_any e.fa w (he.fa.below hM.below))) ?_
  refine sr 1 ?_
  refine sgx ?_
  refine sr 2 ?_
  refine sgo ?_
  refine T_cond rfl ?_ ?_ <;> intro h21
  · try simp only [nrm] at h21
    refine tx ?_
    refine sr 2 ?_
    refine sgo ?_
    refine tr1 hRb fun w hM => ?_
    exact ⟨by rw [evNo, fst_f h15, fst_t h21], hM.below⟩
  try simp only [nrm] at h21
  refine kgs ?_
  refine tx ?_
  refine s1 (yF fa31_4) ?_
  refine s1 (yL 1 Tryz.underlying28) ?_
  refine s1 (y_len_slice rfl rfl Tryz.underlying28) ?_
  refine sr 1 ?_
  refine sgo ?_
  refine T_cond rfl ?_ ?_ <;> intro h26
  · try simp only [nrm] at h26
    refine tx ?_
    refine sr 1 ?_
    refine sgo ?_
    refine tr1 hRb fun w hM => ?_
    exact ⟨by rw [evNo, fst_f h15, fst_f h21, if_pos (by omega), fst_t (by decide)], hM.below⟩
  try simp only [nrm] at h26
  refine kgs ?_
  refine tx ?_
  refine s1 (yF fa31_4) ?_
  refine s1 (yL 1 Tryz.underlying28) ?_
  refine s1 (y_len_slice rfl rfl Tryz.underlying28) ?_
  refine sr 1 ?_
  refine sgo ?_
  refine T_block ?_
  refine lK2 (kf := [(2, 2), (5, 7), (30, 61)]) (kl := [(2, 2), (5, 7), (30, 61)]) (fun (i : Nat) (b : STag) => [(30, true, .int .i64 (i : Int))]) (fun (i : Nat) (b : STag) => []) (fun (i : Nat) (b : STag) => i ≤ e.ta.q ∧ tagsNo none e.ta.l = tagsNo (prevN i b) (e.ta.l.drop i) ∧ (0 < i → e.ta.l[i - 1]? = some b)) (fun (i : Nat) (b : STag) => e.ta.q - i) 0 ⟨[], []⟩ ?_ ?_ ?_ ?_
  · exact ⟨by omega, rfl, by omega⟩
  · exact ⟨rfl, trivial⟩
  · exact trivial
  rintro i b ⟨hp1, hp2, hp3⟩
  refine tx ?_
  refine sr 1 ?_
  refine sgs ?_
  refine T_cond rfl ?_ ?_ <;> intro h31
  · try simp only [nrm] at h31
    obtain ⟨x, hx1, hx2⟩ := ht.at (i := i) (by omega)
    have hn := he.ta.n x (mem_at hx1)
    have hn2 := hn.2
    refine kgs ?_
    refine T_block ?_
    refine tx ?_
    refine sr 1 ?_
    refine s1 (y_indexAddr rfl rfl rfl Tryz.underlying28 sz92 (fun hg => ht.isSome (by omega)) (fun _ => by omega)) ?_
    refine s1 (y_loadT rfl rfl ht (fun _ => rfl) (fun _ => hx1) Tryz.underlying92 rfl sz92) ?_
    refine S_alloc 6 6 rfl rfl rfl rfl z92 ?_
    intro b6
    refine sr 1 ?_
    refine S_store 6 rfl rfl rfl rfl rfl rfl sz92 rfl rfl ?_
    refine sgs ?_
    refine T_block ?_
    refine tx ?_
    refine s1 (yF fa92_0) ?_
    refine s1 (yL 6 Tryz.underlying9) ?_
    refine s1 (y_call rfl rfl rfl cf40 (fun _ w _ => NameOk_any _ w)) ?_
    refine sr 2 ?_
    refine sgo ?_
    refine T_cond rfl ?_ ?_ <;> intro h35
    · try simp only [nrm] at h35
      refine tx ?_
      refine sr 1 ?_
      refine sgo ?_
      refine tr1 hRb fun w hM => ?_
      exact ⟨by rw [evNo, fst_f h15, fst_f h21, if_neg (by omega), hp2, hx2, tagsNo, if_pos h35, fst_t (by decide)], hM.below⟩
    try simp only [nrm] at h35
    refine T_seq ?_
    refine T_draws (by kernel_rfl) (by kernel_rfl) ?_
    refine d1 (y_move rfl rfl) ?_
    refine d1 (y_bin rfl rfl rfl (fun _ => b_gtr)) ?_
    refine d1 (y_move rfl rfl) ?_
    refine dg rfl (yF fa92_0) ?_
    refine dg rfl (yL 6 Tryz.underlying9) ?_
    refine dg rfl (yF fa31_4) ?_
    refine dg rfl (yL 1 Tryz.underlying28) ?_
    refine dg rfl (y_move rfl rfl) ?_
    refine dg rfl (y_bin rfl rfl rfl (fun hg => b_subv (((i - 1 : Nat) : Int)) (by simp only [Bool.true_and, Bool.and_eq_true, beq_iff_eq, decide_eq_true_eq, decide_eq_false_iff_not, Int.not_lt, Int.not_le] at hg; omega) (by simp only [Bool.true_and, Bool.and_eq_true, beq_iff_eq, decide_eq_true_eq, decide_eq_false_iff_not, Int.not_lt, Int.not_le] at hg; omega))) ?_
    refine dg rfl (y_indexAddr rfl rfl rfl Tryz.underlying28 sz92 (fun hg => ht.isSome (by simp only [Bool.true_and, Bool.and_eq_true, beq_iff_eq, decide_eq_true_eq, decide_eq_false_iff_not, Int.not_lt, Int.not_le] at hg; omega)) (fun hg => by simp only [Bool.true_and, Bool.and_eq_true, beq_iff_eq, decide_eq_true_eq, decide_eq_false_iff_not, Int.not_lt, Int.not_le] at hg; omega)) ?_
    refine dg rfl (y_fieldEl rfl rfl ht.rd (fun hg => by simp only [Bool.true_and, Bool.and_eq_true, beq_iff_eq, decide_eq_true_eq, decide_eq_false_iff_not, Int.not_lt, Int.not_le] at hg; omega) fa92_0) ?_
    refine dg rfl (y_load_fT rfl rfl ht (fun _ => rfl) (fun hg => hp3 (by simp only [Bool.true_and, Bool.and_eq_true, beq_iff_eq, decide_eq_true_eq, decide_eq_false_iff_not, Int.not_lt, Int.not_le] at hg; omega)) rfl Tryz.underlying9 rfl) ?_
    refine dg rfl (y_bin rfl rfl rfl (fun _ => b_leqs)) ?_
    refine d1 (y_as (v' := .bool ((prevN i b).any fun s => Op.bytesLess x.n s || decide (x.n = s))) (by rw [prevN_any]) (y_and rfl rfl rfl)) ?_
    refine d1 (y_assign rfl rfl) ?_
    refine dgo ?_
    refine T_cond rfl ?_ ?_ <;> intro h40
    · skip
      refine tx ?_
      refine sr 1 ?_
      refine sgo ?_
      refine tr1 hRb fun w hM => ?_
      exact ⟨by rw [evNo, fst_f h15, fst_f h21, if_neg (by omega), hp2, hx2, tagsNo, if_neg (by rw [h35]; simp), if_t h40, fst_t (by decide)], hM.below⟩
    refine kgx ?_
    refine s1 (yF fa92_1) ?_
    refine s1 (yL 6 Tryz.underlying9) ?_
    refine s1 (y_call rfl rfl rfl cf41 (fun _ w _ => wordFault_any _ (by first | omega | (simp; done) | (simp; omega) | (simp only; omega)) w)) ?_
    refine sr 1 ?_
    refine sgx ?_
    refine sr 2 ?_
    refine sgo ?_
    refine T_cond rfl ?_ ?_ <;> intro h59
    · try simp only [nrm] at h59
      refine tx ?_
      refine sr 2 ?_
      refine sgo ?_
      refine tr1 hRb fun w hM => ?_
      exact ⟨by rw [evNo, fst_f h15, fst_f h21, if_neg (by omega), hp2, hx2, tagsNo, if_neg (by rw [h35]; simp), if_f h40, if_pos h59, fst_t h59], hM.below⟩
    try simp only [nrm] at h59
    refine kgr ?_
    refine s1 (y_bin rfl rfl rfl (fun hg => b_add (by omega))) ?_
    refine sr 1 ?_
    refine S_nil (nK2 (kf := [(2, 2), (5, 7), (30, 61)]) (kl := [(2, 2), (5, 7), (30, 61)]) (i + 1) x ?_ ?_ ?_ ?_)
    · omega
    · exact ⟨by omega, by rw [hp2, hx2, tagsNo, if_neg (by rw [h35]; simp), if_f h40, if_neg (by simpa using h59)]; rfl, fun _ => hx1⟩
    · exact ⟨rfl, trivial⟩
    · exact trivial
  try simp only [nrm] at h31
  have h23 : (if (40 : Int) < e.ta.q then 4 else tagsNo none e.ta.l) = 0 := by rw [if_neg (by omega), hp2, ht.end (by omega), tagsNo_nil]
  refine egs ?_
  refine tx ?_
  refine s1 (yF fa31_5) ?_
  refine s1 (yL 1 Tryz.underlying29) ?_
  refine s1 (y_len_slice rfl rfl Tryz.underlying29) ?_
  refine sr 1 ?_
  refine sgo ?_
  refine T_cond rfl ?_ ?_ <;> intro h65
  · try simp only [nrm] at h65
    refine tx ?_
    refine sr 1 ?_
    refine sgo ?_
    refine tr1 hRb fun w hM => ?_
    exact ⟨by rw [evNo, fst_f h15, fst_f h21, fst_f h23, if_pos (by omega), fst_t (by decide)], hM.below⟩
  try simp only [nrm] at h65
  refine kgs ?_
  refine tx ?_
  refine s1 (yF fa31_5) ?_
  refine s1 (yL 1 Tryz.underlying29) ?_
  refine s1 (y_len_slice rfl rfl Tryz.underlying29) ?_
  refine sr 1 ?_
  refine sgo ?_
  refine T_block ?_
  refine lK2 (kf := [(2, 2), (8, 10), (69, 104)]) (kl := [(2, 2), (8, 10), (69, 104)]) (fun (j : Nat) (d : SCrumb) => [(69, true, .int .i64 (j : Int))]) (fun (j : Nat) (d : SCrumb) => []) (fun (j : Nat) (d : SCrumb) => j ≤ e.cr.q ∧ crumbsNo none e.cr.l = crumbsNo (prevA j d) (e.cr.l.drop j) ∧ (0 < j → e.cr.l[j - 1]? = some d)) (fun (j : Nat) (d : SCrumb) => e.cr.q - j) 0 ⟨0, [], []⟩ ?_ ?_ ?_ ?_
  · exact ⟨by omega, rfl, by omega⟩
  · exact ⟨rfl, trivial⟩
  · exact trivial
  rintro j d ⟨hq1, hq2, hq3⟩
  refine tx ?_
  refine sr 1 ?_
  refine sgs ?_
  refine T_cond rfl ?_ ?_ <;> intro h70
  · try simp only [nrm] at h70
    obtain ⟨y, hy1, hy2⟩ := hu.at (i := j) (by omega)
    have hm := he.cr.n y (mem_at hy1)
    have hm2 := hm.2
    refine kgs ?_
    refine T_block ?_
    refine tx ?_
    refine sr 1 ?_
    refine s1 (y_indexAddr rfl rfl rfl Tryz.underlying29 sz95 (fun hg => hu.isSome (by omega)) (fun _ => by omega)) ?_
    refine s1 (y_loadT rfl rfl hu (fun _ => rfl) (fun _ => hy1) Tryz.underlying95 rfl sz95) ?_
    refine S_alloc 9 9 rfl rfl rfl rfl z95 ?_
    intro b9
    refine sr 1 ?_
    refine S_store 9 rfl rfl rfl rfl rfl rfl sz95 rfl rfl ?_
    refine sgs ?_
    refine T_block ?_
    refine tx ?_
    refine s1 (yF fa95_0) ?_
    refine s1 (yL 9 Tryz.underlying3) ?_
    refine s1 (y_call rfl rfl rfl cf42 (fun _ w _ => out_any _ _ _ w)) ?_
    refine sr 1 ?_
    refine sgo ?_
    refine T_cond rfl ?_ ?_ <;> intro h74
    · skip
      refine tx ?_
      refine sr 1 ?_
      refine sgo ?_
      refine tr1 hRb fun w hM => ?_
      exact ⟨by rw [evNo, fst_f h15, fst_f h21, fst_f h23, if_neg (by omega), hq2, hy2, crumbsNo, if_t h74, fst_t (by decide)], hM.below⟩
    refine T_seq ?_
    refine T_draws (by kernel_rfl) (by kernel_rfl) ?_
    refine d1 (y_move rfl rfl) ?_
    refine d1 (y_bin rfl rfl rfl (fun _ => b_gtr)) ?_
    refine d1 (y_move rfl rfl) ?_
    refine dg rfl (yF fa95_0) ?_
    refine dg rfl (yL 9 Tryz.underlying3) ?_
    refine dg rfl (yF fa31_5) ?_
    refine dg rfl (yL 1 Tryz.underlying29) ?_
    refine dg rfl (y_move rfl rfl) ?_
    refine dg rfl (y_bin rfl rfl rfl (fun hg => b_subv (((j - 1 : Nat) : Int)) (by simp only [Bool.true_and, Bool.and_eq_true, beq_iff_eq, decide_eq_true_eq, decide_eq_false_iff_not, Int.not_lt, Int.not_le] at hg; omega) (by simp only [Bool.true_and, Bool.and_eq_true, beq_iff_eq, decide_eq_true_eq, decide_eq_false_iff_not, Int.not_lt, Int.not_le] at hg; omega))) ?_
    refine dg rfl (y_indexAddr rfl rfl rfl Tryz.underlying29 sz95 (fun hg => hu.isSome (by simp only [Bool.true_and, Bool.and_eq_true, beq_iff_eq, decide_eq_true_eq, decide_eq_false_iff_not, Int.not_lt, Int.not_le] at hg; omega)) (fun hg => by simp only [Bool.true_and, Bool.and_eq_true, beq_iff_eq, decide_eq_true_eq, decide_eq_false_iff_not, Int.not_lt, Int.not_le] at hg; omega)) ?_
    refine dg rfl (y_fieldEl rfl rfl hu.rd (fun hg => by simp only [Bool.true_and, Bool.and_eq_true, beq_iff_eq, decide_eq_true_eq, decide_eq_false_iff_not, Int.not_lt, Int.not_le] at hg; omega) fa95_0) ?_
    refine dg rfl (y_load_fT rfl rfl hu (fun _ => rfl) (fun hg => hq3 (by simp only [Bool.true_and, Bool.and_eq_true, beq_iff_eq, decide_eq_true_eq, decide_eq_false_iff_not, Int.not_lt, Int.not_le] at hg; omega)) rfl Tryz.underlying3 rfl) ?_
    refine dg rfl (y_bin rfl rfl rfl (fun _ => b_lss)) ?_
    refine d1 (y_as (v' := .bool ((prevA j d).any fun n => decide (y.at_ < n))) (by rw [prevA_any]) (y_and rfl rfl rfl)) ?_
    refine d1 (y_assign rfl rfl) ?_
    refine dgo ?_
    refine T_cond rfl ?_ ?_ <;> intro h78
    · skip
      refine tx ?_
      refine sr 1 ?_
      refine sgo ?_
      refine tr1 hRb fun w hM => ?_
      exact ⟨by rw [evNo, fst_f h15, fst_f h21, fst_f h23, if_neg (by omega), hq2, hy2, crumbsNo, if_f h74, if_t h78, fst_t (by decide)], hM.below⟩
    refine tx ?_
    refine s1 (yF fa95_1) ?_
    refine s1 (yL 9 Tryz.underlying9) ?_
    refine s1 (y_call rfl rfl rfl cf40 (fun _ w _ => NameOk_any _ w)) ?_
    refine sr 2 ?_
    refine sgo ?_
    refine T_cond rfl ?_ ?_ <;> intro h93
    · try simp only [nrm] at h93
      refine tx ?_
      refine sr 1 ?_
      refine sgo ?_
      refine tr1 hRb fun w hM => ?_
      exact ⟨by rw [evNo, fst_f h15, fst_f h21, fst_f h23, if_neg (by omega), hq2, hy2, crumbsNo, if_f h74, if_f h78, if_pos h93, fst_t (by decide)], hM.below⟩
    try simp only [nrm] at h93
    refine kgx ?_
    refine s1 (yF fa95_2) ?_
    refine s1 (yL 9 Tryz.underlying9) ?_
    refine s1 (y_call rfl rfl rfl cf43 (fun _ w _ => sayFault_any _ (by first | omega | (simp; done) | (simp; omega) | (simp only; omega)) w)) ?_
    refine sr 1 ?_
    refine sgx ?_
    refine sr 2 ?_
    refine sgo ?_
    refine T_cond rfl ?_ ?_ <;> intro h102
    · try simp only [nrm] at h102
      refine tx ?_
      refine sr 2 ?_
      refine sgo ?_
      refine tr1 hRb fun w hM => ?_
      exact ⟨by rw [evNo, fst_f h15, fst_f h21, fst_f h23, if_neg (by omega), hq2, hy2, crumbsNo, if_f h74, if_f h78, if_neg (by rw [h93]; simp), if_pos h102, fst_t h102], hM.below⟩
    try simp only [nrm] at h102
    refine kgr ?_
    refine s1 (y_bin rfl rfl rfl (fun hg => b_add (by omega))) ?_
    refine sr 1 ?_
    refine S_nil (nK2 (kf := [(2, 2), (8, 10), (69, 104)]) (kl := [(2, 2), (8, 10), (69, 104)]) (j + 1) y ?_ ?_ ?_ ?_)
    · omega
    · exact ⟨by omega, by rw [hq2, hy2, crumbsNo, if_f h74, if_f h78, if_neg (by rw [h93]; simp), if_neg (by simpa using h102)]; rfl, fun _ => hy1⟩
    · exact ⟨rfl, trivial⟩
    · exact trivial
  try simp only [nrm] at h70
  have h29 : (if (50 : Int) < e.cr.q then 4 else crumbsNo none e.cr.l) = 0 := by rw [if_neg (by omega), hq2, hu.end (by omega), crumbsNo_nil]
  refine egs ?_
  refine tx ?_
  refine s1 (yF fa31_6) ?_
  refine s1 (yL 1 Tryz.underlying9) ?_
  refine s1 (y_bin rfl rfl rfl (fun _ => b_neqs)) ?_
  refine sr 1 ?_
  refine sg rfl (yF fa31_6) ?_
  refine sg rfl (yL 1 Tryz.underlying9) ?_
  refine sg rfl (y_call rfl rfl rfl cf40 (fun _ w _ => NameOk_any _ w)) ?_
  refine sg rfl (y_not rfl rfl) ?_
  refine s1 (y_and rfl rfl rfl) ?_
  refine sgo ?_
  refine T_cond rfl ?_ ?_ <;> intro h113
  · skip
    refine tx ?_
    refine sr 1 ?_
    refine sgo ?_
    refine tr1 hRb fun w hM => ?_
    exact ⟨by rw [evNo, fst_f h15, fst_f h21, fst_f h23, fst_f h29, if_t h113], hM.below⟩
  refine kgs ?_
  refine tx ?_
  refine s1 (yF fa31_7) ?_
  refine s1 (yL 1 Tryz.underlying9) ?_
  refine s1 (y_call rfl rfl rfl cf41 (fun _ w _ => wordFault_any _ (by first | omega | (simp; done) | (simp; omega) | (simp only; omega)) w)) ?_
  refine sr 1 ?_
  refine sgx ?_
  refine sr 2 ?_
  refine sgo ?_
  refine T_cond rfl ?_ ?_ <;> intro h118
  · try simp only [nrm] at h118
    refine tx ?_
    refine sr 2 ?_
    refine sgo ?_
    refine tr1 hRb fun w hM => ?_
    exact ⟨by rw [evNo, fst_f h15, fst_f h21, fst_f h23, fst_f h29, if_f h113, fst_t h118], hM.below⟩
  try simp only [nrm] at h118
  refine kgs ?_
  refine tx ?_
  refine s1 (yF fa31_8) ?_
  refine s1 (yL 1 Tryz.underlying3) ?_
  refine s1 (y_call rfl rfl rfl cf42 (fun _ w _ => out_any _ _ _ w)) ?_
  refine sgo ?_
  refine T_cond rfl ?_ ?_ <;> intro h122
  · skip
    refine tx ?_
    refine sr 1 ?_
    refine sgo ?_
    refine tr1 hRb fun w hM => ?_
    exact ⟨by rw [evNo, fst_f h15, fst_f h21, fst_f h23, fst_f h29, if_f h113, fst_f h118, if_t h122], hM.below⟩
  refine kgx ?_
  refine sr 1 ?_
  refine sgo ?_
  refine tr1 hRb fun w hM => ?_
  exact ⟨by rw [evNo, fst_f h15, fst_f h21, fst_f h23, fst_f h29, if_f h113, fst_f h118, if_f h122], hM.below⟩
end Go.Proofs.YtekbcbjimajnfaaGreatDoor
end
section
namespace Go.Proofs.YtekbcbjimajnfaaGreatDoor
set_option linter.unusedSimpArgs false
set_option linter.unusedVariables false
set_option maxRecDepth 20000
open Go.RowKit Go.Eng
def Frm.eqB (a b : Frm) : Bool := decide (a.m = b.m) && (decide (a.f = b.f) && (decide (a.fi = b.fi) && (decide (a.ln = b.ln) && (decide (a.ad = b.ad) && (a.own == b.own)))))
theorem Frm.eqB_iff (a b : Frm) : Frm.eqB a b = true ↔ a = b := by cases a; cases b; simp [Frm.eqB]
def STag.eqB (a b : STag) : Bool := decide (a.n = b.n) && decide (a.v = b.v)
theorem STag.eqB_iff (a b : STag) : STag.eqB a b = true ↔ a = b := by cases a; cases b; simp [STag.eqB]
def SCrumb.eqB (a b : SCrumb) : Bool := decide (a.at_ = b.at_) && (decide (a.k = b.k) && decide (a.t = b.t))
theorem SCrumb.eqB_iff (a b : SCrumb) : SCrumb.eqB a b = true ↔ a = b := by cases a; cases b; simp [SCrumb.eqB]
def strE (l : List UInt8) : List Value := [str l]
theorem EqualFr_any (A B : Option Addr) (q c p d : Nat) (l m : List (Frm)) (w : World) (hl : SlT Frm.enc 6 w A q l) (hm : SlT Frm.enc 6 w B p m) (hq : q ≤ 4611686018427387904) (hp : p ≤ 4611686018427387904) :
    Calls Tryz.prog 91 #[.slice A q c, .slice B p d] w fun e w' => e = .returned (.bool (eqLB Frm.eqB l m)) ∧ Below w.heap.size w w' := by
  have hlen := hl.len
  have hmen := hm.len
  refine enter_args (args := [.slice A q c, .slice B p d]) (F := _) Tryz.func91 rfl Tryz.ntmps91 rfl rfl ?_
  intro Rb hRb hRn
  refine tx ?_
  refine sr 1 ?_
  refine sgs ?_
  refine tx ?_
  refine sr 1 ?_
  refine s1 (y_len_slice rfl rfl Tryz.underlying98) ?_
  refine sr 1 ?_
  refine s1 (y_len_slice rfl rfl Tryz.underlying98) ?_
  refine sr 1 ?_
  refine sgo ?_
  refine T_cond rfl ?_ ?_ <;> intro h10
  · try simp only [nrm] at h10
    refine tx ?_
    refine sr 1 ?_
    refine sgo ?_
    refine tr1 hRb fun w hM => ?_
    exact ⟨by rw [eqLB_len l m (by omega)], hM.below⟩
  try simp only [nrm] at h10
  refine kgs ?_
  refine tx ?_
  refine sr 1 ?_
  refine s1 (y_len_slice rfl rfl Tryz.underlying98) ?_
  refine sr 1 ?_
  refine sgo ?_
  refine T_block ?_
  refine lK1 (kf := [(4, 5), (13, 25)]) (kl := [(4, 5), (13, 25)]) (fun (i : Nat) => [(13, true, .int .i64 (i : Int))]) (fun (i : Nat) => []) (fun (i : Nat) => i ≤ q ∧ eqLB Frm.eqB l m = eqLB Frm.eqB (l.drop i) (m.drop i)) (fun (i : Nat) => q - i) 0 ?_ ?_ ?_ ?_
  · exact ⟨by omega, rfl⟩
  · exact ⟨rfl, trivial⟩
  · exact trivial
  rintro i ⟨hp1, hp2⟩
  refine tx ?_
  refine sr 1 ?_
  refine sgs ?_
  refine T_cond rfl ?_ ?_ <;> intro h14
  · try simp only [nrm] at h14
    obtain ⟨a, hx1, hx2⟩ := hl.at (i := i) (by omega)
    obtain ⟨b, hy1, hy2⟩ := hm.at (i := i) (by omega)
    refine kgs ?_
    refine T_block ?_
    refine tx ?_
    refine sr 2 ?_
    refine sgs ?_
    refine T_draws (by kernel_rfl) (by kernel_rfl) ?_
    refine d1 (y_move rfl rfl) ?_
    refine d1 (y_move rfl rfl) ?_
    refine d1 (y_indexAddr rfl rfl rfl Tryz.underlying98 sz105 (fun hg => hl.isSome (by omega)) (fun _ => by omega)) ?_
    refine d1 (y_loadT rfl rfl hl (fun _ => rfl) (fun _ => hx1) Tryz.underlying105 rfl sz105) ?_
    refine d1 (y_move rfl rfl) ?_
    refine d1 (y_move rfl rfl) ?_
    refine d1 (y_indexAddr rfl rfl rfl Tryz.underlying98 sz105 (fun hg => hm.isSome (by omega)) (fun _ => by omega)) ?_
    refine d1 (y_loadT rfl rfl hm (fun _ => rfl) (fun _ => hy1) Tryz.underlying105 rfl sz105) ?_
    refine d1 (y_as (v' := .bool (!(Frm.eqB a b))) (by simp [Frm.eqB, str]) (y_bin rfl rfl rfl (fun _ => b_neqA (rs := [_, _, _, _, _, _]) Tryz.underlying105 (by kernel_rfl) (by kernel_rfl) ⟨by decide, ⟨_, Tryz.underlying9, rfl, _, _, rfl, rfl, rfl⟩, by decide, ⟨_, Tryz.underlying9, rfl, _, _, rfl, rfl, rfl⟩, by decide, ⟨_, Tryz.underlying9, rfl, _, _, rfl, rfl, rfl⟩, by decide, ⟨_, Tryz.underlying3, rfl, _, _, rfl, rfl, rfl⟩, by decide, ⟨_, Tryz.underlying3, rfl, _, _, rfl, rfl, rfl⟩, by decide, ⟨_, Tryz.underlying4, rfl, _, _, rfl, rfl, rfl⟩, trivial⟩))) ?_
    refine dgo ?_
    refine T_cond rfl ?_ ?_ <;> intro h24
    · skip
      have h24e : Frm.eqB a b = false := by simpa using h24
      refine tx ?_
      refine sr 1 ?_
      refine sgo ?_
      refine tr1 hRb fun w hM => ?_
      exact ⟨by rw [hp2, hx2, hy2, eqLB, h24e, Bool.false_and], hM.below⟩
    have h24e : Frm.eqB a b = true := by simpa using h24
    refine kgr ?_
    refine s1 (y_bin rfl rfl rfl (fun hg => b_add (by omega))) ?_
    refine sr 1 ?_
    refine S_nil (nK1 (kf := [(4, 5), (13, 25)]) (kl := [(4, 5), (13, 25)]) (i + 1) ?_ ?_ ?_ ?_)
    · omega
    · exact ⟨by omega, by rw [hp2, hx2, hy2, eqLB, h24e, Bool.true_and]⟩
    · exact ⟨rfl, trivial⟩
    · exact trivial
  try simp only [nrm] at h14
  refine egx ?_
  refine sr 1 ?_
  refine sgo ?_
  refine tr1 hRb fun w hM => ?_
  exact ⟨by rw [hp2, hl.end (by omega), hm.end (by omega)]; rfl, hM.below⟩
theorem EqualTg_any (A B : Option Addr) (q c p d : Nat) (l m : List (STag)) (w : World) (hl : SlT STag.enc 2 w A q l) (hm : SlT STag.enc 2 w B p m) (hq : q ≤ 4611686018427387904) (hp : p ≤ 4611686018427387904) :
    Calls Tryz.prog 52 #[.slice A q c, .slice B p d] w fun e w' => e = .returned (.bool (eqLB STag.eqB l m)) ∧ Below w.heap.size w w' := by
  have hlen := hl.len
  have hmen := hm.len
  refine enter_args (args := [.slice A q c, .slice B p d]) (F := _) Tryz.func52 rfl Tryz.ntmps52 rfl rfl ?_
  intro Rb hRb hRn
  refine tx ?_
  refine sr 1 ?_
  refine sgs ?_
  refine tx ?_
  refine sr 1 ?_
  refine s1 (y_len_slice rfl rfl Tryz.underlying28) ?_
  refine sr 1 ?_
  refine s1 (y_len_slice rfl rfl Tryz.underlying28) ?_
  refine sr 1 ?_
  refine sgo ?_
  refine T_cond rfl ?_ ?_ <;> intro h10
  · try simp only [nrm] at h10
    refine tx ?_
    refine sr 1 ?_
    refine sgo ?_
    refine tr1 hRb fun w hM => ?_
    exact ⟨by rw [eqLB_len l m (by omega)], hM.below⟩
  try simp only [nrm] at h10
  refine kgs ?_
  refine tx ?_
  refine sr 1 ?_
  refine s1 (y_len_slice rfl rfl Tryz.underlying28) ?_
  refine sr 1 ?_
  refine sgo ?_
  refine T_block ?_
  refine lK1 (kf := [(4, 5), (13, 25)]) (kl := [(4, 5), (13, 25)]) (fun (i : Nat) => [(13, true, .int .i64 (i : Int))]) (fun (i : Nat) => []) (fun (i : Nat) => i ≤ q ∧ eqLB STag.eqB l m = eqLB STag.eqB (l.drop i) (m.drop i)) (fun (i : Nat) => q - i) 0 ?_ ?_ ?_ ?_
  · exact ⟨by omega, rfl⟩
  · exact ⟨rfl, trivial⟩
  · exact trivial
  rintro i ⟨hp1, hp2⟩
  refine tx ?_
  refine sr 1 ?_
  refine sgs ?_
  refine T_cond rfl ?_ ?_ <;> intro h14
  · try simp only [nrm] at h14
    obtain ⟨a, hx1, hx2⟩ := hl.at (i := i) (by omega)
    obtain ⟨b, hy1, hy2⟩ := hm.at (i := i) (by omega)
    refine kgs ?_
    refine T_block ?_
    refine tx ?_
    refine sr 2 ?_
    refine sgs ?_
    refine T_draws (by kernel_rfl) (by kernel_rfl) ?_
    refine d1 (y_move rfl rfl) ?_
    refine d1 (y_move rfl rfl) ?_
    refine d1 (y_indexAddr rfl rfl rfl Tryz.underlying28 sz92 (fun hg => hl.isSome (by omega)) (fun _ => by omega)) ?_
    refine d1 (y_loadT rfl rfl hl (fun _ => rfl) (fun _ => hx1) Tryz.underlying92 rfl sz92) ?_
    refine d1 (y_move rfl rfl) ?_
    refine d1 (y_move rfl rfl) ?_
    refine d1 (y_indexAddr rfl rfl rfl Tryz.underlying28 sz92 (fun hg => hm.isSome (by omega)) (fun _ => by omega)) ?_
    refine d1 (y_loadT rfl rfl hm (fun _ => rfl) (fun _ => hy1) Tryz.underlying92 rfl sz92) ?_
    refine d1 (y_as (v' := .bool (!(STag.eqB a b))) (by simp [STag.eqB, str]) (y_bin rfl rfl rfl (fun _ => b_neqA (rs := [_, _]) Tryz.underlying92 (by kernel_rfl) (by kernel_rfl) ⟨by decide, ⟨_, Tryz.underlying9, rfl, _, _, rfl, rfl, rfl⟩, by decide, ⟨_, Tryz.underlying9, rfl, _, _, rfl, rfl, rfl⟩, trivial⟩))) ?_
    refine dgo ?_
    refine T_cond rfl ?_ ?_ <;> intro h24
    · skip
      have h24e : STag.eqB a b = false := by simpa using h24
      refine tx ?_
      refine sr 1 ?_
      refine sgo ?_
      refine tr1 hRb fun w hM => ?_
      exact ⟨by rw [hp2, hx2, hy2, eqLB, h24e, Bool.false_and], hM.below⟩
    have h24e : STag.eqB a b = true := by simpa using h24
    refine kgr ?_
    refine s1 (y_bin rfl rfl rfl (fun hg => b_add (by omega))) ?_
    refine sr 1 ?_
    refine S_nil (nK1 (kf := [(4, 5), (13, 25)]) (kl := [(4, 5), (13, 25)]) (i + 1) ?_ ?_ ?_ ?_)
    · omega
    · exact ⟨by omega, by rw [hp2, hx2, hy2, eqLB, h24e, Bool.true_and]⟩
    · exact ⟨rfl, trivial⟩
    · exact trivial
  try simp only [nrm] at h14
  refine egx ?_
  refine sr 1 ?_
  refine sgo ?_
  refine tr1 hRb fun w hM => ?_
  exact ⟨by rw [hp2, hl.end (by omega), hm.end (by omega)]; rfl, hM.below⟩
theorem EqualCr_any (A B : Option Addr) (q c p d : Nat) (l m : List (SCrumb)) (w : World) (hl : SlT SCrumb.enc 3 w A q l) (hm : SlT SCrumb.enc 3 w B p m) (hq : q ≤ 4611686018427387904) (hp : p ≤ 4611686018427387904) :
    Calls Tryz.prog 53 #[.slice A q c, .slice B p d] w fun e w' => e = .returned (.bool (eqLB SCrumb.eqB l m)) ∧ Below w.heap.size w w' := by
  have hlen := hl.len
  have hmen := hm.len
  refine enter_args (args := [.slice A q c, .slice B p d]) (F := _) Tryz.func53 rfl Tryz.ntmps53 rfl rfl ?_
  intro Rb hRb hRn
  refine tx ?_
  refine sr 1 ?_
  refine sgs ?_
  refine tx ?_
  refine sr 1 ?_
  refine s1 (y_len_slice rfl rfl Tryz.underlying29) ?_
  refine sr 1 ?_
  refine s1 (y_len_slice rfl rfl Tryz.underlying29) ?_
  refine sr 1 ?_
  refine sgo ?_
  refine T_cond rfl ?_ ?_ <;> intro h10
  · try simp only [nrm] at h10
    refine tx ?_
    refine sr 1 ?_
    refine sgo ?_
    refine tr1 hRb fun w hM => ?_
    exact ⟨by rw [eqLB_len l m (by omega)], hM.below⟩
  try simp only [nrm] at h10
  refine kgs ?_
  refine tx ?_
  refine sr 1 ?_
  refine s1 (y_len_slice rfl rfl Tryz.underlying29) ?_
  refine sr 1 ?_
  refine sgo ?_
  refine T_block ?_
  refine lK1 (kf := [(4, 5), (13, 25)]) (kl := [(4, 5), (13, 25)]) (fun (i : Nat) => [(13, true, .int .i64 (i : Int))]) (fun (i : Nat) => []) (fun (i : Nat) => i ≤ q ∧ eqLB SCrumb.eqB l m = eqLB SCrumb.eqB (l.drop i) (m.drop i)) (fun (i : Nat) => q - i) 0 ?_ ?_ ?_ ?_
  · exact ⟨by omega, rfl⟩
  · exact ⟨rfl, trivial⟩
  · exact trivial
  rintro i ⟨hp1, hp2⟩
  refine tx ?_
  refine sr 1 ?_
  refine sgs ?_
  refine T_cond rfl ?_ ?_ <;> intro h14
  · try simp only [nrm] at h14
    obtain ⟨a, hx1, hx2⟩ := hl.at (i := i) (by omega)
    obtain ⟨b, hy1, hy2⟩ := hm.at (i := i) (by omega)
    refine kgs ?_
    refine T_block ?_
    refine tx ?_
    refine sr 2 ?_
    refine sgs ?_
    refine T_draws (by kernel_rfl) (by kernel_rfl) ?_
    refine d1 (y_move rfl rfl) ?_
    refine d1 (y_move rfl rfl) ?_
    refine d1 (y_indexAddr rfl rfl rfl Tryz.underlying29 sz95 (fun hg => hl.isSome (by omega)) (fun _ => by omega)) ?_
    refine d1 (y_loadT rfl rfl hl (fun _ => rfl) (fun _ => hx1) Tryz.underlying95 rfl sz95) ?_
    refine d1 (y_move rfl rfl) ?_
    refine d1 (y_move rfl rfl) ?_
    refine d1 (y_indexAddr rfl rfl rfl Tryz.underlying29 sz95 (fun hg => hm.isSome (by omega)) (fun _ => by omega)) ?_
    refine d1 (y_loadT rfl rfl hm (fun _ => rfl) (fun _ => hy1) Tryz.underlying95 rfl sz95) ?_
    refine d1 (y_as (v' := .bool (!(SCrumb.eqB a b))) (by simp [SCrumb.eqB, str]) (y_bin rfl rfl rfl (fun _ => b_neqA (rs := [_, _, _]) Tryz.underlying95 (by kernel_rfl) (by kernel_rfl) ⟨by decide, ⟨_, Tryz.underlying3, rfl, _, _, rfl, rfl, rfl⟩, by decide, ⟨_, Tryz.underlying9, rfl, _, _, rfl, rfl, rfl⟩, by decide, ⟨_, Tryz.underlying9, rfl, _, _, rfl, rfl, rfl⟩, trivial⟩))) ?_
    refine dgo ?_
    refine T_cond rfl ?_ ?_ <;> intro h24
    · skip
      have h24e : SCrumb.eqB a b = false := by simpa using h24
      refine tx ?_
      refine sr 1 ?_
      refine sgo ?_
      refine tr1 hRb fun w hM => ?_
      exact ⟨by rw [hp2, hx2, hy2, eqLB, h24e, Bool.false_and], hM.below⟩
    have h24e : SCrumb.eqB a b = true := by simpa using h24
    refine kgr ?_
    refine s1 (y_bin rfl rfl rfl (fun hg => b_add (by omega))) ?_
    refine sr 1 ?_
    refine S_nil (nK1 (kf := [(4, 5), (13, 25)]) (kl := [(4, 5), (13, 25)]) (i + 1) ?_ ?_ ?_ ?_)
    · omega
    · exact ⟨by omega, by rw [hp2, hx2, hy2, eqLB, h24e, Bool.true_and]⟩
    · exact ⟨rfl, trivial⟩
    · exact trivial
  try simp only [nrm] at h14
  refine egx ?_
  refine sr 1 ?_
  refine sgo ?_
  refine tr1 hRb fun w hM => ?_
  exact ⟨by rw [hp2, hl.end (by omega), hm.end (by omega)]; rfl, hM.below⟩
def Flt.eqB (x y : Flt) : Bool := decide (x.k = y.k) && decide (x.t = y.t) && eqLB Frm.eqB x.fr.l y.fr.l
theorem SameFault_any (x y : Flt) (w : World) (hx : FltOk w x) (hy : FltOk w y) :
    Calls Tryz.prog 51 #[x.val, y.val] w fun e w' => e = .returned (.bool (Flt.eqB x y)) ∧ Below w.heap.size w w' := by
  have hxq := hx.fr.q
  have hyq := hy.fr.q
  refine enter_args (args := [.agg #[str x.k, str x.t, .slice x.fr.A x.fr.q x.fr.c], .agg #[str y.k, str y.t, .slice y.fr.A y.fr.q y.fr.c]]) (F := _) Tryz.func51 rfl Tryz.ntmps51 rfl rfl ?_
  intro Rb hRb hRn
  refine tx ?_
  refine S_box 2 2 rfl rfl rfl rfl rfl ?_
  intro b2
  refine S_box 3 3 rfl rfl rfl rfl rfl ?_
  intro b3
  refine sr 1 ?_
  refine sgx ?_
  refine s1 (yF fa100_0) ?_
  refine s1 (yL 2 Tryz.underlying9) ?_
  refine s1 (yF fa100_0) ?_
  refine s1 (yL 3 Tryz.underlying9) ?_
  refine s1 (y_bin rfl rfl rfl (fun _ => b_eqls)) ?_
  refine sr 1 ?_
  refine sg rfl (yF fa100_1) ?_
  refine sg rfl (yL 2 Tryz.underlying9) ?_
  refine sg rfl (yF fa100_1) ?_
  refine sg rfl (yL 3 Tryz.underlying9) ?_
  refine sg rfl (y_bin rfl rfl rfl (fun _ => b_eqls)) ?_
  refine s1 (y_and rfl rfl rfl) ?_
  refine sr 1 ?_
  refine sg rfl (yF fa100_2) ?_
  refine sg rfl (yL 2 Tryz.underlying98) ?_
  refine sg rfl (yF fa100_2) ?_
  refine sg rfl (yL 3 Tryz.underlying98) ?_
  refine sg rfl (y_call rfl rfl rfl cf91 (fun _ w hM => EqualFr_any _ _ _ _ _ _ _ _ w (hx.fr.ok.t.below hM.below) (hy.fr.ok.t.below hM.below) hxq hyq)) ?_
  refine s1 (y_and rfl rfl rfl) ?_
  refine sr 1 ?_
  refine sgo ?_
  refine tr1 hRb fun w hM => ?_
  exact ⟨rfl, hM.below⟩
theorem EqualFuncFlt_any (l m : Sl Flt) (g : FuncId) (cap : Array Value) (w : World) (hl : FltsOk w l) (hm : FltsOk w m) (hcf : ∀ args w, (callFunc g args).run Tryz.prog w = .ok (.enter g args) w)
    (hA : ∀ x y w', Below w.heap.size w w' → FltOk w' x → FltOk w' y → Calls Tryz.prog g (#[x.val, y.val] ++ cap) w' fun e w'' => e = .returned (.bool (Flt.eqB x y)) ∧ Below w'.heap.size w' w'') :
    Calls Tryz.prog 50 #[.slice l.A l.q l.c, .slice m.A m.q m.c, .func (.func g) #[] cap] w fun e w' => e = .returned (.bool (eqLB Flt.eqB l.l m.l)) ∧ Below w.heap.size w w' := by
  have ht := hl.ok.t
  have hu := hm.ok.t
  have hq := hl.q
  have hp := hm.q
  have hlen := ht.len
  have hmen := hu.len
  refine enter_args (args := [.slice l.A l.q l.c, .slice m.A m.q m.c, .func (.func g) #[] cap]) (F := _) Tryz.func50 rfl Tryz.ntmps50 rfl rfl ?_
  intro Rb hRb hRn
  refine tx ?_
  refine sr 1 ?_
  refine sgs ?_
  refine tx ?_
  refine sr 1 ?_
  refine s1 (y_len_slice rfl rfl Tryz.underlying27) ?_
  refine sr 1 ?_
  refine s1 (y_len_slice rfl rfl Tryz.underlying27) ?_
  refine sr 1 ?_
  refine sgo ?_
  refine T_cond rfl ?_ ?_ <;> intro h14
  · try simp only [nrm] at h14
    refine tx ?_
    refine sr 1 ?_
    refine sgo ?_
    refine tr1 hRb fun w hM => ?_
    exact ⟨by rw [eqLB_len l.l m.l (by omega)], hM.below⟩
  try simp only [nrm] at h14
  refine kgs ?_
  refine tx ?_
  refine sr 1 ?_
  refine s1 (y_len_slice rfl rfl Tryz.underlying27) ?_
  refine sr 1 ?_
  refine sgo ?_
  refine T_block ?_
  refine lK1 (kf := [(6, 9), (17, 31)]) (kl := [(6, 9), (17, 31)]) (fun (i : Nat) => [(17, true, .int .i64 (i : Int))]) (fun (i : Nat) => []) (fun (i : Nat) => i ≤ l.q ∧ eqLB Flt.eqB l.l m.l = eqLB Flt.eqB (l.l.drop i) (m.l.drop i)) (fun (i : Nat) => l.q - i) 0 ?_ ?_ ?_ ?_
  · exact ⟨by omega, rfl⟩
  · exact ⟨rfl, trivial⟩
  · exact trivial
  rintro i ⟨hp1, hp2⟩
  refine tx ?_
  refine sr 1 ?_
  refine sgs ?_
  refine T_cond rfl ?_ ?_ <;> intro h18
  · try simp only [nrm] at h18
    obtain ⟨x, hx1, hx2⟩ := ht.at (i := i) (by omega)
    obtain ⟨y, hy1, hy2⟩ := hu.at (i := i) (by omega)
    refine kgs ?_
    refine T_block ?_
    refine tx ?_
    refine sr 1 ?_
    refine s1 (y_indexAddr rfl rfl rfl Tryz.underlying27 sz100 (fun hg => ht.isSome (by omega)) (fun _ => by omega)) ?_
    refine s1 (y_loadT rfl rfl ht (fun _ => rfl) (fun _ => hx1) Tryz.underlying100 rfl sz100) ?_
    refine S_alloc 8 8 rfl rfl rfl rfl z100 ?_
    intro b8
    refine sr 1 ?_
    refine S_store 8 rfl rfl rfl rfl rfl rfl sz100 rfl rfl ?_
    refine sgx ?_
    refine sr 2 ?_
    refine s1 (y_indexAddr rfl rfl rfl Tryz.underlying27 sz100 (fun hg => hu.isSome (by omega)) (fun _ => by omega)) ?_
    refine s1 (y_loadT rfl rfl hu (fun _ => rfl) (fun _ => hy1) Tryz.underlying100 rfl sz100) ?_
    refine S_alloc 9 9 rfl rfl rfl rfl z100 ?_
    intro b9
    refine S_store 9 rfl rfl rfl rfl rfl rfl sz100 rfl rfl ?_
    refine sgx ?_
    refine sr 1 ?_
    refine s1 (yA 8 rfl Tryz.underlying100 sz100) ?_
    refine s1 (yA 9 rfl Tryz.underlying100 sz100) ?_
    refine s1 (y_call rfl rfl rfl hcf (fun _ w hM => hA x y w hM.below ((hl.n x (mem_at hx1)).below hM.below) ((hm.n y (mem_at hy1)).below hM.below))) ?_
    refine sr 1 ?_
    refine sgo ?_
    refine T_cond rfl ?_ ?_ <;> intro h30
    · try simp only [nrm] at h30
      refine tx ?_
      refine sr 1 ?_
      refine sgo ?_
      refine tr1 hRb fun w hM => ?_
      exact ⟨by rw [hp2, hx2, hy2, eqLB, h30, Bool.false_and], hM.below⟩
    try simp only [nrm] at h30
    refine kgr ?_
    refine s1 (y_bin rfl rfl rfl (fun hg => b_add (by omega))) ?_
    refine sr 1 ?_
    refine S_nil (nK1 (kf := [(6, 9), (17, 31)]) (kl := [(6, 9), (17, 31)]) (i + 1) ?_ ?_ ?_ ?_)
    · omega
    · exact ⟨by omega, by rw [hp2, hx2, hy2, eqLB, h30, Bool.true_and]⟩
    · exact ⟨rfl, trivial⟩
    · exact trivial
  try simp only [nrm] at h18
  refine egx ?_
  refine sr 1 ?_
  refine sgo ?_
  refine tr1 hRb fun w hM => ?_
  exact ⟨by rw [hp2, ht.end (by omega), hu.end (by omega)]; rfl, hM.below⟩
def sameE (a b : Evt) : Bool := decide (a.id = b.id) && decide (a.at_ = b.at_) && decide (a.lv = b.lv) && eqLB Flt.eqB a.fa.l b.fa.l && eqLB STag.eqB a.ta.l b.ta.l && eqLB SCrumb.eqB a.cr.l b.cr.l && decide (a.rel = b.rel) && decide (a.us = b.us) && decide (a.wt = b.wt)
theorem SameEvent_any (a b : Evt) (w : World) (ha : a.Ok w) (hb : b.Ok w) :
    Calls Tryz.prog 15 #[a.val, b.val] w fun e w' => e = .returned (.bool (sameE a b)) ∧ Below w.heap.size w w' := by
  refine enter_args (args := [.agg #[str a.id, .int .i64 a.at_, .int .i64 a.lv, .slice a.fa.A a.fa.q a.fa.c, .slice a.ta.A a.ta.q a.ta.c, .slice a.cr.A a.cr.q a.cr.c, str a.rel, str a.us, .int .i64 a.wt], .agg #[str b.id, .int .i64 b.at_, .int .i64 b.lv, .slice b.fa.A b.fa.q b.fa.c, .slice b.ta.A b.ta.q b.ta.c, .slice b.cr.A b.cr.q b.cr.c, str b.rel, str b.us, .int .i64 b.wt]]) (F := _) Tryz.func15 rfl Tryz.ntmps15 rfl rfl ?_
  intro Rb hRb hRn
  refine tx ?_
  refine S_box 2 2 rfl rfl rfl rfl rfl ?_
  intro b2
  refine S_box 3 3 rfl rfl rfl rfl rfl ?_
  intro b3
  refine sr 1 ?_
  refine sgx ?_
  refine s1 (yF fa31_0) ?_
  refine s1 (yL 2 Tryz.underlying9) ?_
  refine s1 (yF fa31_0) ?_
  refine s1 (yL 3 Tryz.underlying9) ?_
  refine s1 (y_bin rfl rfl rfl (fun _ => b_eqls)) ?_
  refine sr 1 ?_
  refine sg rfl (yF fa31_1) ?_
  refine sg rfl (yL 2 Tryz.underlying3) ?_
  refine sg rfl (yF fa31_1) ?_
  refine sg rfl (yL 3 Tryz.underlying3) ?_
  refine sg rfl (y_bin rfl rfl rfl (fun _ => b_eql)) ?_
  refine s1 (y_and rfl rfl rfl) ?_
  refine sr 1 ?_
  refine sg rfl (yF fa31_2) ?_
  refine sg rfl (yL 2 Tryz.underlying3) ?_
  refine sg rfl (yF fa31_2) ?_
  refine sg rfl (yL 3 Tryz.underlying3) ?_
  refine sg rfl (y_bin rfl rfl rfl (fun _ => b_eql)) ?_
  refine s1 (y_and rfl rfl rfl) ?_
  refine sr 1 ?_
  refine sg rfl (yF fa31_3) ?_
  refine sg rfl (yL 2 Tryz.underlying27) ?_
  refine sg rfl (yF fa31_3) ?_
  refine sg rfl (yL 3 Tryz.underlying27) ?_
  refine sg rfl (y_call rfl rfl rfl cf50 (fun _ w hM => EqualFuncFlt_any a.fa b.fa _ #[] w (ha.fa.below hM.below) (hb.fa.below hM.below) cf51 (fun x y w _ hx hy => SameFault_any x y w hx hy))) ?_
  refine s1 (y_and rfl rfl rfl) ?_
  refine sr 1 ?_
  refine sg rfl (yF fa31_4) ?_
  refine sg rfl (yL 2 Tryz.underlying28) ?_
  refine sg rfl (yF fa31_4) ?_
  refine sg rfl (yL 3 Tryz.underlying28) ?_
  refine sg rfl (y_call rfl rfl rfl cf52 (fun _ w hM => EqualTg_any _ _ _ _ _ _ _ _ w (ha.ta.ok.t.below hM.below) (hb.ta.ok.t.below hM.below) ha.ta.q hb.ta.q)) ?_
  refine s1 (y_and rfl rfl rfl) ?_
  refine sr 1 ?_
  refine sg rfl (yF fa31_5) ?_
  refine sg rfl (yL 2 Tryz.underlying29) ?_
  refine sg rfl (yF fa31_5) ?_
  refine sg rfl (yL 3 Tryz.underlying29) ?_
  refine sg rfl (y_call rfl rfl rfl cf53 (fun _ w hM => EqualCr_any _ _ _ _ _ _ _ _ w (ha.cr.ok.t.below hM.below) (hb.cr.ok.t.below hM.below) ha.cr.q hb.cr.q)) ?_
  refine s1 (y_and rfl rfl rfl) ?_
  refine sr 1 ?_
  refine sg rfl (yF fa31_6) ?_
  refine sg rfl (yL 2 Tryz.underlying9) ?_
  refine sg rfl (yF fa31_6) ?_
  refine sg rfl (yL 3 Tryz.underlying9) ?_
  refine sg rfl (y_bin rfl rfl rfl (fun _ => b_eqls)) ?_
  refine s1 (y_and rfl rfl rfl) ?_
  refine sr 1 ?_
  refine sg rfl (yF fa31_7) ?_
  refine sg rfl (yL 2 Tryz.underlying9) ?_
  refine sg rfl (yF fa31_7) ?_
  refine sg rfl (yL 3 Tryz.underlying9) ?_
  refine sg rfl (y_bin rfl rfl rfl (fun _ => b_eqls)) ?_
  refine s1 (y_and rfl rfl rfl) ?_
  refine sr 1 ?_
  refine sg rfl (yF fa31_8) ?_
  refine sg rfl (yL 2 Tryz.underlying3) ?_
  refine sg rfl (yF fa31_8) ?_
  refine sg rfl (yL 3 Tryz.underlying3) ?_
  refine sg rfl (y_bin rfl rfl rfl (fun _ => b_eql)) ?_
  refine s1 (y_and rfl rfl rfl) ?_
  refine sr 1 ?_
  refine sgo ?_
  refine tr1 hRb fun w hM => ?_
  exact ⟨rfl, hM.below⟩
theorem eqL_refl {α : Type} {f : α → α → Bool} (h : ∀ a, f a a = true) : ∀ l : List α, eqLB f l l = true
  | [] => rfl
  | a :: r => by rw [eqLB, eqL_refl h r, h]; rfl
/-- the value of a tag -/
def tagV (n : List UInt8) : List STag → List UInt8 × Bool
  | [] => ([], false)
  | t :: r => if t.n = n then (t.v, true) else tagV n r
theorem Tag_any (e : Evt) (n : List UInt8) (w : World) (he : e.Ok w) :
    Calls Tryz.prog 106 #[e.val, str n] w fun en w' => en = .returned (.tuple #[str (tagV n e.ta.l).1, .bool (tagV n e.ta.l).2]) ∧ Below w.heap.size w w' := by
  have ht := he.ta.ok.t
  have hq := he.ta.q
  refine enter_args (args := [.agg #[str e.id, .int .i64 e.at_, .int .i64 e.lv, .slice e.fa.A e.fa.q e.fa.c, .slice e.ta.A e.ta.q e.ta.c, .slice e.cr.A e.cr.q e.cr.c, str e.rel, str e.us, .int .i64 e.wt], str n]) (F := _) Tryz.func106 rfl Tryz.ntmps106 rfl rfl ?_
  intro Rb hRb hRn
  refine tx ?_
  refine S_box 2 2 rfl rfl rfl rfl rfl ?_
  intro b2
  refine sr 2 ?_
  refine sgs ?_
  refine tx ?_
  refine s1 (yF fa31_4) ?_
  refine s1 (yL 2 Tryz.underlying28) ?_
  refine s1 (y_len_slice rfl rfl Tryz.underlying28) ?_
  refine sr 1 ?_
  refine sgo ?_
  refine T_block ?_
  refine lK1 (kf := [(4, 5), (7, 7), (11, 21)]) (kl := [(4, 5), (7, 7), (11, 21)]) (fun (i : Nat) => [(11, true, .int .i64 (i : Int))]) (fun (i : Nat) => []) (fun (i : Nat) => i ≤ e.ta.q ∧ tagV n e.ta.l = tagV n (e.ta.l.drop i)) (fun (i : Nat) => e.ta.q - i) 0 ?_ ?_ ?_ ?_
  · exact ⟨by omega, rfl⟩
  · exact ⟨rfl, trivial⟩
  · exact trivial
  rintro i ⟨hp1, hp2⟩
  refine tx ?_
  refine sr 1 ?_
  refine sgs ?_
  refine T_cond rfl ?_ ?_ <;> intro h12
  · try simp only [nrm] at h12
    obtain ⟨x, hx1, hx2⟩ := ht.at (i := i) (by omega)
    refine kgs ?_
    refine T_block ?_
    refine tx ?_
    refine s1 (y_indexAddr rfl rfl rfl Tryz.underlying28 sz92 (fun hg => ht.isSome (by omega)) (fun _ => by omega)) ?_
    refine s1 (y_loadT rfl rfl ht (fun _ => rfl) (fun _ => hx1) Tryz.underlying92 rfl sz92) ?_
    refine S_alloc 7 7 rfl rfl rfl rfl z92 ?_
    intro b7
    refine S_store 7 rfl rfl rfl rfl rfl rfl sz92 rfl rfl ?_
    refine sgx ?_
    refine s1 (yF fa92_0) ?_
    refine s1 (yL 7 Tryz.underlying9) ?_
    refine sr 1 ?_
    refine s1 (y_bin rfl rfl rfl (fun _ => b_eqls)) ?_
    refine sgo ?_
    refine T_cond rfl ?_ ?_ <;> intro h18
    · try simp only [nrm] at h18
      refine tx ?_
      refine s1 (yF fa92_1) ?_
      refine s1 (yL 7 Tryz.underlying9) ?_
      refine sr 2 ?_
      refine sgo ?_
      refine tr2 hRb fun w hM => ?_
      exact ⟨by rw [hp2, hx2, tagV, if_pos h18], hM.below⟩
    try simp only [nrm] at h18
    refine kgr ?_
    refine s1 (y_bin rfl rfl rfl (fun hg => b_add (by omega))) ?_
    refine sr 1 ?_
    refine S_nil (nK1 (kf := [(4, 5), (7, 7), (11, 21)]) (kl := [(4, 5), (7, 7), (11, 21)]) (i + 1) ?_ ?_ ?_ ?_)
    · omega
    · exact ⟨by omega, by rw [hp2, hx2, tagV, if_neg h18]⟩
    · exact ⟨rfl, trivial⟩
    · exact trivial
  try simp only [nrm] at h12
  refine egx ?_
  refine sr 2 ?_
  refine sgo ?_
  refine tr2 hRb fun w hM => ?_
  exact ⟨by rw [hp2, ht.end (by omega)]; rfl, hM.below⟩
theorem Tagged_any (e : Evt) (n : List UInt8) (w : World) (he : e.Ok w) :
    Calls Tryz.prog 111 #[e.val, str n] w fun en w' => en = .returned (.tuple #[str (tagV n e.ta.l).1, .bool (tagV n e.ta.l).2]) ∧ Below w.heap.size w w' := by
  have ht := he.ta.ok.t
  have hq := he.ta.q
  refine enter_args (args := [.agg #[str e.id, .int .i64 e.at_, .int .i64 e.lv, .slice e.fa.A e.fa.q e.fa.c, .slice e.ta.A e.ta.q e.ta.c, .slice e.cr.A e.cr.q e.cr.c, str e.rel, str e.us, .int .i64 e.wt], str n]) (F := _) Tryz.func111 rfl Tryz.ntmps111 rfl rfl ?_
  intro Rb hRb hRn
  refine tx ?_
  refine S_box 2 2 rfl rfl rfl rfl rfl ?_
  intro b2
  refine sr 2 ?_
  refine sgs ?_
  refine tx ?_
  refine s1 (yF fa31_4) ?_
  refine s1 (yL 2 Tryz.underlying28) ?_
  refine s1 (y_len_slice rfl rfl Tryz.underlying28) ?_
  refine sr 1 ?_
  refine sgo ?_
  refine T_block ?_
  refine lK1 (kf := [(4, 5), (7, 7), (11, 21)]) (kl := [(4, 5), (7, 7), (11, 21)]) (fun (i : Nat) => [(11, true, .int .i64 (i : Int))]) (fun (i : Nat) => []) (fun (i : Nat) => i ≤ e.ta.q ∧ tagV n e.ta.l = tagV n (e.ta.l.drop i)) (fun (i : Nat) => e.ta.q - i) 0 ?_ ?_ ?_ ?_
  · exact ⟨by omega, rfl⟩
  · exact ⟨rfl, trivial⟩
  · exact trivial
  rintro i ⟨hp1, hp2⟩
  refine tx ?_
  refine sr 1 ?_
  refine sgs ?_
  refine T_cond rfl ?_ ?_ <;> intro h12
  · try simp only [nrm] at h12
    obtain ⟨x, hx1, hx2⟩ := ht.at (i := i) (by omega)
    refine kgs ?_
    refine T_block ?_
    refine tx ?_
    refine s1 (y_indexAddr rfl rfl rfl Tryz.underlying28 sz92 (fun hg => ht.isSome (by omega)) (fun _ => by omega)) ?_
    refine s1 (y_loadT rfl rfl ht (fun _ => rfl) (fun _ => hx1) Tryz.underlying92 rfl sz92) ?_
    refine S_alloc 7 7 rfl rfl rfl rfl z92 ?_
    intro b7
    refine S_store 7 rfl rfl rfl rfl rfl rfl sz92 rfl rfl ?_
    refine sgx ?_
    refine s1 (yF fa92_0) ?_
    refine s1 (yL 7 Tryz.underlying9) ?_
    refine sr 1 ?_
    refine s1 (y_bin rfl rfl rfl (fun _ => b_eqls)) ?_
    refine sgo ?_
    refine T_cond rfl ?_ ?_ <;> intro h18
    · try simp only [nrm] at h18
      refine tx ?_
      refine s1 (yF fa92_1) ?_
      refine s1 (yL 7 Tryz.underlying9) ?_
      refine sr 2 ?_
      refine sgo ?_
      refine tr2 hRb fun w hM => ?_
      exact ⟨by rw [hp2, hx2, tagV, if_pos h18], hM.below⟩
    try simp only [nrm] at h18
    refine kgr ?_
    refine s1 (y_bin rfl rfl rfl (fun hg => b_add (by omega))) ?_
    refine sr 1 ?_
    refine S_nil (nK1 (kf := [(4, 5), (7, 7), (11, 21)]) (kl := [(4, 5), (7, 7), (11, 21)]) (i + 1) ?_ ?_ ?_ ?_)
    · omega
    · exact ⟨by omega, by rw [hp2, hx2, tagV, if_neg h18]⟩
    · exact ⟨rfl, trivial⟩
    · exact trivial
  try simp only [nrm] at h12
  refine egx ?_
  refine sr 2 ?_
  refine sgo ?_
  refine tr2 hRb fun w hM => ?_
  exact ⟨by rw [hp2, ht.end (by omega)]; rfl, hM.below⟩
/-- the words of levels -/
def levels : List (List UInt8) := [[100, 101, 98, 117, 103], [110, 111, 116, 101], [119, 97, 114, 110, 105, 110, 103], [101, 114, 114, 111, 114], [102, 97, 116, 97, 108]]
theorem Levels_any (w : World) :
    Calls Tryz.prog 105 #[] w fun e w' => ∃ A c, e = .returned (.slice A 5 c) ∧ w'.ownsRow w.heap.size 9 1 (.slice A 5 c) 5 (levels.flatMap strE) ∧ Below w.heap.size w w' := by
  refine enter_args (args := []) (F := _) Tryz.func105 rfl Tryz.ntmps105 rfl rfl ?_
  intro Rb hRb hRn
  refine tx ?_
  refine S_nilSlice 0 (e := 9) (size := 1) ?_
  refine sr 1 ?_
  refine sgx ?_
  refine S_buildSlice 1 1 rfl rfl rfl rfl rfl Tryz.underlying49 inf9 rfl (by decide) (by decide) rfl rfl (by decide) rfl (_) rfl ?_
  intro b1
  refine sr 1 ?_
  refine sgo ?_
  refine tr1 hRb fun w hM => ?_
  exact ⟨_, _, rfl, hM.sat 1 _ rfl, hM.below⟩
theorem LevelWords_any (w : World) :
    Calls Tryz.prog 110 #[] w fun e w' => ∃ A c, e = .returned (.slice A 5 c) ∧ w'.ownsRow w.heap.size 9 1 (.slice A 5 c) 5 (levels.flatMap strE) ∧ Below w.heap.size w w' := by
  refine enter_args (args := []) (F := _) Tryz.func110 rfl Tryz.ntmps110 rfl rfl ?_
  intro Rb hRb hRn
  refine tx ?_
  refine S_nilSlice 0 (e := 9) (size := 1) ?_
  refine sr 1 ?_
  refine sgx ?_
  refine S_buildSlice 1 1 rfl rfl rfl rfl rfl Tryz.underlying49 inf9 rfl (by decide) (by decide) rfl rfl (by decide) rfl (_) rfl ?_
  intro b1
  refine sr 1 ?_
  refine sgo ?_
  refine tr1 hRb fun w hM => ?_
  exact ⟨_, _, rfl, hM.sat 1 _ rfl, hM.below⟩
end Go.Proofs.YtekbcbjimajnfaaGreatDoor
end
section
namespace Go.Proofs.YtekbcbjimajnfaaGreatDoor
set_option linter.unusedSimpArgs false
set_option linter.unusedVariables false
set_option maxRecDepth 20000
open Go.RowKit Go.Eng
/-- how many bytes at the beginning are such -/
def hdN (is : UInt8 → Bool) : List UInt8 → Nat
  | [] => 0
  | c :: r => if is c = true then hdN is r + 1 else 0
/-- the rows of such bytes, from a place on; n: what is left -/
def rowsF (is : UInt8 → Bool) (s : List UInt8) : Nat → Nat → List (Nat × Nat)
  | 0, _ => []
  | n + 1, i => if is (s.getD i 0) = true then (i, i + hdN is (s.drop i)) :: rowsF is s (n - hdN is (s.drop i)) (i + hdN is (s.drop i) + 1) else rowsF is s n (i + 1)
/-- parts in order, apart, within n -/
inductive SpOk (n : Nat) : Nat → List (Nat × Nat) → Prop where
  | nil {a : Nat} (h : a ≤ n) : SpOk n a []
  | cons {a f t : Nat} {r : List (Nat × Nat)} (h1 : a ≤ f) (h2 : f ≤ t) (h3 : t ≤ n) (h : SpOk n t r) : SpOk n a ((f, t) :: r)
theorem SpOk.mono {n a b : Nat} {l : List (Nat × Nat)} (h : SpOk n a l) (hb : b ≤ a) : SpOk n b l := by
  cases h with
  | nil h => exact .nil (by omega)
  | cons h1 h2 h3 h => exact .cons (by omega) h2 h3 h
theorem SpOk.filter {n : Nat} (p : Nat × Nat → Bool) : ∀ {a : Nat} {l : List (Nat × Nat)}, SpOk n a l → SpOk n a (l.filter p)
  | a, [], h => h
  | a, (f, t) :: r, h => by
    cases h with
    | cons h1 h2 h3 h =>
      rw [List.filter_cons]
      split
      · exact .cons h1 h2 h3 (SpOk.filter p h)
      · exact SpOk.mono (a := t) (SpOk.filter p h) (by omega)
/-- what is put together: what lies between the parts stays -/
def putM (s : List UInt8) : Nat → List (Nat × Nat) → List UInt8
  | a, [] => s.drop a
  | a, (f, t) :: r => (s.drop a).take (f - a) ++ List.replicate (t - f) 42 ++ putM s t r
end Go.Proofs.YtekbcbjimajnfaaGreatDoor
end
section
namespace Go.Proofs.YtekbcbjimajnfaaGreatDoor
set_option linter.unusedSimpArgs false
set_option linter.unusedVariables false
set_option maxRecDepth 20000
open Go.RowKit Go.Eng
abbrev lngF (k : Int) (l : List (Nat × Nat)) : List (Nat × Nat) := l.filter fun x => decide (k ≤ (x.2 : Int) - (x.1 : Int))
/-- the rows that are long enough -/
def rowsK (is : UInt8 → Bool) (k : Int) (s : List UInt8) : List (Nat × Nat) := lngF k (rowsF is s s.length 0)
end Go.Proofs.YtekbcbjimajnfaaGreatDoor
end
section
namespace Go.Proofs.YtekbcbjimajnfaaGreatDoor
set_option linter.unusedSimpArgs false
set_option linter.unusedVariables false
set_option maxRecDepth 20000
open Go.RowKit Go.Eng
/-- two rows with an @ between -/
def mailG (s : List UInt8) : List (Nat × Nat) → List (Nat × Nat)
  | a :: b :: r => if b.1 = a.2 + 1 ∧ s.getD a.2 0 = 64 then (a.1, b.2) :: mailG s r else mailG s (b :: r)
  | _ => []
def mailsF (is : UInt8 → Bool) (s : List UInt8) : List (Nat × Nat) := mailG s (rowsF is s s.length 0)
/-- rows in order: apart by at least one -/
inductive Apr : Nat → List (Nat × Nat) → Prop where
  | nil {a : Nat} : Apr a []
  | cons {a f t : Nat} {r : List (Nat × Nat)} (h1 : a ≤ f) (h2 : f < t) (h : Apr (t + 1) r) : Apr a ((f, t) :: r)
theorem Apr.mono {a b : Nat} {l : List (Nat × Nat)} (h : Apr a l) (hb : b ≤ a) : Apr b l := by
  cases h with
  | nil => exact .nil
  | cons h1 h2 h => exact .cons (by omega) h2 h
end Go.Proofs.YtekbcbjimajnfaaGreatDoor
end
section
namespace Go.Proofs.YtekbcbjimajnfaaGreatDoor
set_option linter.unusedSimpArgs false
set_option linter.unusedVariables false
set_option maxRecDepth 20000
open Go.RowKit Go.Eng
theorem CloneFlt_any (l : Sl Flt) (w : World) (hl : l.Ok Flt.enc 3 w) (hq : l.q ≤ 1000000) :
    Calls Tryz.prog 46 #[.slice l.A l.q l.c] w fun e w' => ∃ A c, e = .returned (.slice A l.q c) ∧ w'.ownsRow w.heap.size 100 3 (.slice A l.q c) l.q (l.l.flatMap Flt.enc) ∧ Below w.heap.size w w' := by
  have hlen := hl.t.len
  refine enter_args (args := [.slice l.A l.q l.c]) (F := _) Tryz.func46 rfl Tryz.ntmps46 rfl rfl ?_
  intro Rb hRb hRn
  refine tx ?_
  refine S_nilSlice 2 (e := 100) (size := 3) ?_
  refine sr 1 ?_
  refine sgs ?_
  refine tx ?_
  refine sr 1 ?_
  refine s1 (y_bin rfl rfl rfl (fun _ => b_eqln Tryz.underlying27)) ?_
  refine sgo ?_
  refine T_cond rfl ?_ ?_ <;> intro h4
  · skip
    refine tx ?_
    refine S_nilSlice 2 (e := 100) (size := 3) ?_
    refine sr 1 ?_
    refine sgo ?_
    refine tr1 hRb fun w hM => ?_
    have hA : l.A = none := by cases h : l.A with
      | none => rfl
      | some a => rw [h] at h4; cases h4
    have h0 : l.q = 0 := by
      rcases Nat.eq_zero_or_pos l.q with h | h
      · exact h
      · have := hl.t.isSome h; rw [hA] at this; cases this
    have hn : l.l = [] := List.eq_nil_of_length_eq_zero (by omega)
    rw [h0, hn]
    exact ⟨none, 0, rfl, World.ownsRow_nil _ _ _ _, hM.below⟩
  refine kgx ?_
  refine S_buildSlice0 5 5 rfl rfl rfl rfl Tryz.underlying27 sz100 ?_
  intro b5
  refine sr 1 ?_
  obtain ⟨i7, hi7, hz7, hs7, hy7⟩ := info_parts inf100
  refine S_appendG 7 5 (news := l.l.flatMap Flt.enc) rfl rfl rfl rfl rfl rfl rfl (fun w hM => hl.t.rd.below hM.below) Tryz.underlying27 hi7 hz7 hs7 hy7 rfl (by decide) (allOne_of (fun u hu => by obtain ⟨a, _, ha⟩ := List.mem_flatMap.1 hu; simp [Flt.enc] at ha; rcases ha with rfl | rfl | rfl <;> rfl)) ?_ ?_ (l.q) (l.l.flatMap Flt.enc) ?_ ?_ ?_
  · (simp only [maxLen]; omega)
  · omega
  · omega
  · rfl
  intro A7 c7
  refine sr 1 ?_
  refine sgo ?_
  refine tr1 hRb fun w hM => ?_
  exact ⟨A7, c7, rfl, hM.sat 5 _ rfl, hM.below⟩
theorem CloneTag_any (l : Sl STag) (w : World) (hl : l.Ok STag.enc 2 w) (hq : l.q ≤ 1000000) :
    Calls Tryz.prog 47 #[.slice l.A l.q l.c] w fun e w' => ∃ A c, e = .returned (.slice A l.q c) ∧ w'.ownsRow w.heap.size 92 2 (.slice A l.q c) l.q (l.l.flatMap STag.enc) ∧ Below w.heap.size w w' := by
  have hlen := hl.t.len
  refine enter_args (args := [.slice l.A l.q l.c]) (F := _) Tryz.func47 rfl Tryz.ntmps47 rfl rfl ?_
  intro Rb hRb hRn
  refine tx ?_
  refine S_nilSlice 2 (e := 92) (size := 2) ?_
  refine sr 1 ?_
  refine sgs ?_
  refine tx ?_
  refine sr 1 ?_
  refine s1 (y_bin rfl rfl rfl (fun _ => b_eqln Tryz.underlying28)) ?_
  refine sgo ?_
  refine T_cond rfl ?_ ?_ <;> intro h4
  · skip
    refine tx ?_
    refine S_nilSlice 2 (e := 92) (size := 2) ?_
    refine sr 1 ?_
    refine sgo ?_
    refine tr1 hRb fun w hM => ?_
    have hA : l.A = none := by cases h : l.A with
      | none => rfl
      | some a => rw [h] at h4; cases h4
    have h0 : l.q = 0 := by
      rcases Nat.eq_zero_or_pos l.q with h | h
      · exact h
      · have := hl.t.isSome h; rw [hA] at this; cases this
    have hn : l.l = [] := List.eq_nil_of_length_eq_zero (by omega)
    rw [h0, hn]
    exact ⟨none, 0, rfl, World.ownsRow_nil _ _ _ _, hM.below⟩
  refine kgx ?_
  refine S_buildSlice0 5 5 rfl rfl rfl rfl Tryz.underlying28 sz92 ?_
  intro b5
  refine sr 1 ?_
  obtain ⟨i7, hi7, hz7, hs7, hy7⟩ := info_parts inf92
  refine S_appendG 7 5 (news := l.l.flatMap STag.enc) rfl rfl rfl rfl rfl rfl rfl (fun w hM => hl.t.rd.below hM.below) Tryz.underlying28 hi7 hz7 hs7 hy7 rfl (by decide) (allOne_of (fun u hu => by obtain ⟨a, _, ha⟩ := List.mem_flatMap.1 hu; simp [STag.enc] at ha; rcases ha with rfl | rfl <;> rfl)) ?_ ?_ (l.q) (l.l.flatMap STag.enc) ?_ ?_ ?_
  · (simp only [maxLen]; omega)
  · omega
  · omega
  · rfl
  intro A7 c7
  refine sr 1 ?_
  refine sgo ?_
  refine tr1 hRb fun w hM => ?_
  exact ⟨A7, c7, rfl, hM.sat 5 _ rfl, hM.below⟩
theorem CloneCrumb_any (l : Sl SCrumb) (w : World) (hl : l.Ok SCrumb.enc 3 w) (hq : l.q ≤ 1000000) :
    Calls Tryz.prog 48 #[.slice l.A l.q l.c] w fun e w' => ∃ A c, e = .returned (.slice A l.q c) ∧ w'.ownsRow w.heap.size 95 3 (.slice A l.q c) l.q (l.l.flatMap SCrumb.enc) ∧ Below w.heap.size w w' := by
  have hlen := hl.t.len
  refine enter_args (args := [.slice l.A l.q l.c]) (F := _) Tryz.func48 rfl Tryz.ntmps48 rfl rfl ?_
  intro Rb hRb hRn
  refine tx ?_
  refine S_nilSlice 2 (e := 95) (size := 3) ?_
  refine sr 1 ?_
  refine sgs ?_
  refine tx ?_
  refine sr 1 ?_
  refine s1 (y_bin rfl rfl rfl (fun _ => b_eqln Tryz.underlying29)) ?_
  refine sgo ?_
  refine T_cond rfl ?_ ?_ <;> intro h4
  · skip
    refine tx ?_
    refine S_nilSlice 2 (e := 95) (size := 3) ?_
    refine sr 1 ?_
    refine sgo ?_
    refine tr1 hRb fun w hM => ?_
    have hA : l.A = none := by cases h : l.A with
      | none => rfl
      | some a => rw [h] at h4; cases h4
    have h0 : l.q = 0 := by
      rcases Nat.eq_zero_or_pos l.q with h | h
      · exact h
      · have := hl.t.isSome h; rw [hA] at this; cases this
    have hn : l.l = [] := List.eq_nil_of_length_eq_zero (by omega)
    rw [h0, hn]
    exact ⟨none, 0, rfl, World.ownsRow_nil _ _ _ _, hM.below⟩
  refine kgx ?_
  refine S_buildSlice0 5 5 rfl rfl rfl rfl Tryz.underlying29 sz95 ?_
  intro b5
  refine sr 1 ?_
  obtain ⟨i7, hi7, hz7, hs7, hy7⟩ := info_parts inf95
  refine S_appendG 7 5 (news := l.l.flatMap SCrumb.enc) rfl rfl rfl rfl rfl rfl rfl (fun w hM => hl.t.rd.below hM.below) Tryz.underlying29 hi7 hz7 hs7 hy7 rfl (by decide) (allOne_of (fun u hu => by obtain ⟨a, _, ha⟩ := List.mem_flatMap.1 hu; simp [SCrumb.enc] at ha; rcases ha with rfl | rfl | rfl <;> rfl)) ?_ ?_ (l.q) (l.l.flatMap SCrumb.enc) ?_ ?_ ?_
  · (simp only [maxLen]; omega)
  · omega
  · omega
  · rfl
  intro A7 c7
  refine sr 1 ?_
  refine sgo ?_
  refine tr1 hRb fun w hM => ?_
  exact ⟨A7, c7, rfl, hM.sat 5 _ rfl, hM.below⟩
end Go.Proofs.YtekbcbjimajnfaaGreatDoor
end
section
namespace Go.Proofs.YtekbcbjimajnfaaGreatDoor
set_option linter.unusedSimpArgs false
set_option linter.unusedVariables false
set_option maxRecDepth 20000
open Go.RowKit Go.Eng
theorem T_some {P : Program} {w0 : World} {n : Nat} {k : Code} {F : FL} {L : HL} {Q : Exit → Act → World → Prop} (i : Nat) {e : TypeId} {size q c : Nat} {A : Option Addr} {xs : List Value} (hL : L.get i = some (.own e size (.slice A q c) q xs)) (h : (0 < q → A.isSome = true) → T P w0 n k F L Q) : T P w0 n k F L Q :=
  fun a w hF hM => h (fun h0 => SlR.isSome (own_reads hM hL) h0) a w hF hM
abbrev Sp := Nat × Nat
end Go.Proofs.YtekbcbjimajnfaaGreatDoor
end
section
namespace Go.Proofs.YtekbcbjimajnfaaGreatDoor
set_option linter.unusedSimpArgs false
set_option linter.unusedVariables false
set_option maxRecDepth 20000
open Go.RowKit Go.Eng
def digM (c : UInt8) : Bool := decide (48 ≤ (c.toNat : Int)) && decide ((c.toNat : Int) ≤ 57)
def hexM (c : UInt8) : Bool := digM c || (decide (97 ≤ (c.toNat : Int)) && decide ((c.toNat : Int) ≤ 102))
def malM (c : UInt8) : Bool := digM c || (decide (97 ≤ (c.toNat : Int)) && decide ((c.toNat : Int) ≤ 122)) || (decide (65 ≤ (c.toNat : Int)) && decide ((c.toNat : Int) ≤ 90)) || decide ((c.toNat : Int) = 46) || decide ((c.toNat : Int) = 45) || decide ((c.toNat : Int) = 95)
end Go.Proofs.YtekbcbjimajnfaaGreatDoor
end
section
namespace Go.Proofs.YtekbcbjimajnfaaGreatDoor
set_option linter.unusedSimpArgs false
set_option linter.unusedVariables false
set_option maxRecDepth 20000
open Go.RowKit Go.Eng
def outI (n lo hi : Int) : Bool := decide (n < lo) || decide (hi < n)
/-! ### What is cleared -/
structure SRl where
  wh : Int
  nm : List UInt8
  fd : Int
  ls : Int
  tx : List UInt8
  dd : Int
/-! ### Groups -/
/-! ### Quotas, rates, alerts, the plan -/
end Go.Proofs.YtekbcbjimajnfaaGreatDoor
end
section
namespace Go.Proofs.YtekbcbjimajnfaaGreatDoor
set_option linter.unusedSimpArgs false
set_option linter.unusedVariables false
set_option maxRecDepth 20000
open Go.RowKit Go.Eng
/-! ### .. by the bytes alone -/
end Go.Proofs.YtekbcbjimajnfaaGreatDoor
end
section
namespace Go.Proofs.YtekbcbjimajnfaaGreatDoor
set_option linter.unusedSimpArgs false
set_option linter.unusedVariables false
set_option maxRecDepth 20000
open Go.RowKit Go.Eng
end Go.Proofs.YtekbcbjimajnfaaGreatDoor
end
section
namespace Go.Proofs.YtekbcbjimajnfaaGreatDoor
set_option linter.unusedSimpArgs false
set_option linter.unusedVariables false
set_option maxRecDepth 20000
open Go.RowKit Go.Eng
end Go.Proofs.YtekbcbjimajnfaaGreatDoor
end
section
namespace Go.Proofs.YtekbcbjimajnfaaGreatDoor
set_option linter.unusedSimpArgs false
set_option linter.unusedVariables false
set_option maxRecDepth 20000
open Go.RowKit Go.Eng
end Go.Proofs.YtekbcbjimajnfaaGreatDoor
end
section
namespace Go.Proofs.YtekbcbjimajnfaaGreatDoor
set_option linter.unusedSimpArgs false
set_option linter.unusedVariables false
set_option maxRecDepth 20000
open Go.RowKit Go.Eng
end Go.Proofs.YtekbcbjimajnfaaGreatDoor
end
section
namespace Go.Proofs.YtekbcbjimajnfaaGreatDoor
set_option linter.unusedSimpArgs false
set_option linter.unusedVariables false
set_option maxRecDepth 20000
open Go.RowKit Go.Eng
/-- what a rule finds -/
def fndR (r : SRl) (s : List UInt8) : List Sp := if r.fd = 2 then rowsK digM r.ls s else if r.fd = 4 then rowsK hexM r.ls s else mailsF malM s
end Go.Proofs.YtekbcbjimajnfaaGreatDoor
end
section
namespace Go.Proofs.YtekbcbjimajnfaaGreatDoor
set_option linter.unusedSimpArgs false
set_option linter.unusedVariables false
set_option maxRecDepth 20000
open Go.RowKit Go.Eng
end Go.Proofs.YtekbcbjimajnfaaGreatDoor
end
section
namespace Go.Proofs.YtekbcbjimajnfaaGreatDoor
set_option linter.unusedSimpArgs false
set_option linter.unusedVariables false
set_option maxRecDepth 20000
open Go.RowKit Go.Eng
section
variable (e : UInt8 → UInt8 → Bool)
def gm : List UInt8 → List UInt8 → Bool
  | [], [] => true
  | [], _ :: _ => false
  | a :: p, [] => decide (a = 42) && gm p []
  | a :: p, c :: r => if a = 42 then gm p (c :: r) || gm (a :: p) r else e a c && gm p r
termination_by p s => p.length + s.length
end
section
variable {e : UInt8 → UInt8 → Bool}
theorem gm_star {p s : List UInt8} : gm e (42 :: p) s = true ↔ ∃ m, m ≤ s.length ∧ gm e p (s.drop m) = true := by
  induction s with
  | nil =>
    rw [gm]
    simp only [decide_true, Bool.true_and, List.length_nil, List.drop_nil]
    exact ⟨fun h => ⟨0, Nat.le_refl _, h⟩, fun ⟨m, _, h⟩ => h⟩
  | cons c r ih =>
    rw [gm, if_pos rfl, Bool.or_eq_true, ih]
    constructor
    · rintro (h | ⟨m, h1, h2⟩)
      · exact ⟨0, Nat.zero_le _, h⟩
      · exact ⟨m + 1, by rw [List.length_cons]; omega, by rw [List.drop_succ_cons]; exact h2⟩
    · rintro ⟨m, h1, h2⟩
      cases m with
      | zero => exact .inl h2
      | succ m => exact .inr ⟨m, by rw [List.length_cons] at h1; omega, by rw [List.drop_succ_cons] at h2; exact h2⟩
theorem gm_lit {a c : UInt8} {p r : List UInt8} (h : a ≠ 42) : gm e (a :: p) (c :: r) = (e a c && gm e p r) := by rw [gm, if_neg h]
theorem gm_lit0 {a : UInt8} {p : List UInt8} (h : a ≠ 42) : gm e (a :: p) [] = false := by rw [gm, decide_eq_false h, Bool.false_and]
theorem gm_nil {s : List UInt8} : gm e [] s = decide (s = []) := by cases s <;> simp [gm]
/-- a pattern in two parts -/
theorem gm_app : ∀ (p q s : List UInt8), gm e (p ++ q) s = true ↔ ∃ m, m ≤ s.length ∧ gm e p (s.take m) = true ∧ gm e q (s.drop m) = true
  | [], q, s => by
    rw [List.nil_append]
    constructor
    · intro h; exact ⟨0, Nat.zero_le _, by simp [gm], h⟩
    · rintro ⟨m, h1, h2, h3⟩
      rw [gm_nil, decide_eq_true_eq] at h2
      have : m = 0 ∨ s = [] := by
        cases s with
        | nil => exact .inr rfl
        | cons a r =>
          cases m with
          | zero => exact .inl rfl
          | succ m => simp at h2
      rcases this with rfl | rfl
      · exact h3
      · simpa using h3
  | a :: p, q, s => by
    by_cases ha : a = 42
    · subst ha
      rw [List.cons_append, gm_star]
      constructor
      · rintro ⟨m, h1, h2⟩
        obtain ⟨k, h3, h4, h5⟩ := (gm_app p q _).1 h2
        rw [List.length_drop] at h3
        refine ⟨m + k, by omega, gm_star.2 ⟨m, by rw [List.length_take]; omega, ?_⟩, by rw [List.drop_drop] at h5; exact h5⟩
        rw [List.drop_take, Nat.add_sub_cancel_left]; exact h4
      · rintro ⟨m, h1, h2, h3⟩
        obtain ⟨k, h4, h5⟩ := gm_star.1 h2
        rw [List.length_take] at h4
        refine ⟨k, by omega, (gm_app p q _).2 ⟨m - k, by rw [List.length_drop]; omega, ?_, ?_⟩⟩
        · rw [List.drop_take] at h5; exact h5
        · rw [List.drop_drop, show k + (m - k) = m by omega]; exact h3
    · cases s with
      | nil =>
        rw [List.cons_append, gm_lit0 ha]
        constructor
        · intro h; cases h
        · rintro ⟨m, _, h2, _⟩
          rw [List.take_nil, gm_lit0 ha] at h2; cases h2
      | cons c r =>
        rw [List.cons_append, gm_lit ha, Bool.and_eq_true, gm_app p q r]
        constructor
        · rintro ⟨h1, m, h2, h3, h4⟩
          exact ⟨m + 1, by rw [List.length_cons]; omega, by rw [List.take_succ_cons, gm_lit ha, h1, h3]; rfl, by rw [List.drop_succ_cons]; exact h4⟩
        · rintro ⟨m, h1, h2, h3⟩
          cases m with
          | zero => rw [List.take_zero, gm_lit0 ha] at h2; cases h2
          | succ m =>
            rw [List.take_succ_cons, gm_lit ha, Bool.and_eq_true] at h2
            exact ⟨h2.1, m, by rw [List.length_cons] at h1; omega, h2.2, by rw [List.drop_succ_cons] at h3; exact h3⟩
/-! ### The table of all beginnings -/
/-- what a row of the table is made of the one before -/
def nxF (a : UInt8) (s : List UInt8) (fits : List Bool) : Nat → Bool
  | 0 => if a = 42 then fits.getD 0 false else false
  | k + 1 => if a = 42 then fits.getD (k + 1) false || nxF a s fits k else fits.getD k false && e a (s.getD k 0)
def rowG (e : UInt8 → UInt8 → Bool) (p s : List UInt8) : List Bool := (List.range (s.length + 1)).map fun k => gm e p (s.take k)
theorem rowG_at {p s : List UInt8} {k : Nat} (h : k ≤ s.length) : (rowG e p s).getD k false = gm e p (s.take k) := by
  rw [rowG, List.getD_eq_getElem?_getD, List.getElem?_map, List.getElem?_range (by omega)]; rfl
theorem gm_one {a : UInt8} {s : List UInt8} (h : a ≠ 42) : gm e [a] s = true ↔ ∃ c, s = [c] ∧ e a c = true := by
  match s with
  | [] => rw [gm_lit0 h]; simp
  | [c] => rw [gm_lit h]; simp [gm]
  | c :: d :: r => rw [gm_lit h]; simp [gm]
theorem nxF_row {a : UInt8} {p s : List UInt8} : ∀ k, k ≤ s.length → nxF (e := e) a s (rowG e p s) k = gm e (p ++ [a]) (s.take k)
  | 0, h => by
    rw [nxF, rowG_at h, List.take_zero, Bool.eq_iff_iff, gm_app]
    by_cases ha : a = 42
    · subst ha
      rw [if_pos rfl]
      constructor
      · intro h2; exact ⟨0, Nat.le_refl _, h2, by simp [gm]⟩
      · rintro ⟨m, h1, h2, _⟩; rw [List.take_nil] at h2; exact h2
    · rw [if_neg ha]
      constructor
      · intro h2; cases h2
      · rintro ⟨m, h1, _, h2⟩; rw [List.drop_nil, gm_lit0 ha] at h2; cases h2
  | k + 1, h => by
    rw [nxF]
    by_cases ha : a = 42
    · subst ha
      rw [if_pos rfl, nxF_row k (by omega), rowG_at h, Bool.eq_iff_iff, Bool.or_eq_true, gm_app, gm_app]
      have any : ∀ t : List UInt8, gm e [42] t = true := fun t => gm_star.2 ⟨t.length, Nat.le_refl _, by rw [List.drop_length]; simp [gm]⟩
      constructor
      · rintro (h2 | ⟨m, h1, h2, _⟩)
        · exact ⟨k + 1, by rw [List.length_take]; omega, by rw [List.take_take, Nat.min_self]; exact h2, any _⟩
        · rw [List.length_take] at h1
          rw [List.take_take, Nat.min_eq_left (by omega)] at h2
          exact ⟨m, by rw [List.length_take]; omega, by rw [List.take_take, Nat.min_eq_left (by omega)]; exact h2, any _⟩
      · rintro ⟨m, h1, h2, _⟩
        rw [List.length_take] at h1
        rw [List.take_take, Nat.min_eq_left (by omega)] at h2
        by_cases hm : m = k + 1
        · subst hm; exact .inl h2
        · exact .inr ⟨m, by rw [List.length_take]; omega, by rw [List.take_take, Nat.min_eq_left (by omega)]; exact h2, any _⟩
    · rw [if_neg ha, rowG_at (by omega), Bool.eq_iff_iff, Bool.and_eq_true, gm_app]
      have hk : s.take (k + 1) = s.take k ++ [s.getD k 0] := by
        rw [List.getD_eq_getElem?_getD, List.getElem?_eq_getElem (by omega), List.take_succ_eq_append_getElem (by omega)]; rfl
      constructor
      · rintro ⟨h2, h3⟩
        refine ⟨k, by rw [List.length_take]; omega, by rw [List.take_take, Nat.min_eq_left (by omega)]; exact h2, ?_⟩
        rw [hk, List.drop_left' (by rw [List.length_take]; omega)]
        exact (gm_one ha).2 ⟨_, rfl, h3⟩
      · rintro ⟨m, h1, h2, h3⟩
        obtain ⟨c, h4, h5⟩ := (gm_one ha).1 h3
        have hl := congrArg List.length h4
        rw [List.length_drop, List.length_take, List.length_singleton] at hl
        have hm : m = k := by omega
        subst hm
        rw [List.take_take, Nat.min_eq_left (by omega)] at h2
        rw [hk, List.drop_left' (by rw [List.length_take]; omega)] at h4
        have : s.getD m 0 = c := by simpa using h4
        exact ⟨h2, by rw [this]; exact h5⟩
theorem rowG_0 (s : List UInt8) : rowG e [] s = true :: List.replicate s.length false := by
  apply List.ext_getElem?
  intro k
  rw [rowG, List.getElem?_map]
  by_cases hk : k ≤ s.length
  · rw [List.getElem?_range (by omega)]
    show some (gm e [] (s.take k)) = _
    rw [gm_nil]
    cases k with
    | zero => simp
    | succ k =>
      rw [List.getElem?_cons_succ, List.getElem?_replicate, if_pos (by omega), decide_eq_false]
      intro h
      have := congrArg List.length h
      rw [List.length_take] at this
      have h0 : ([] : List UInt8).length = 0 := rfl
      omega
  · rw [List.getElem?_eq_none (by simp; omega), List.getElem?_eq_none (by simp; omega)]; rfl
/-! ### Back to the last star -/
/-- where the search stands: the last star at 'st' was tried from 'mk' on; the pattern from there to 'i' has no star -/
structure Tried (e : UInt8 → UInt8 → Bool) (p s : List UInt8) (i k : Nat) (st : Option Nat) (mk : Nat) : Prop where
  hi : i ≤ p.length
  hk : k ≤ s.length
  hst : ∀ j, st = some j → j < i ∧ k = mk + (i - j - 1) ∧ p.getD j 0 = 42 ∧ ∀ m, j < m → m < i → p.getD m 0 ≠ 42
  no : st = none → mk = 0
  eq : gm e p s = true ↔ gm e (p.drop i) (s.drop k) = true ∨ ∃ j, st = some j ∧ ∃ m, mk < m ∧ m ≤ s.length ∧ gm e (p.drop (j + 1)) (s.drop m) = true
theorem Tried.start (p s : List UInt8) : Tried e p s 0 0 none 0 := ⟨Nat.zero_le _, Nat.zero_le _, (fun j h => by cases h), (fun _ => rfl), by simp⟩
theorem drop_getD {p : List UInt8} {i : Nat} (h : i < p.length) : p.drop i = p.getD i 0 :: p.drop (i + 1) := by
  rw [List.drop_eq_getElem_cons h, List.getD_eq_getElem?_getD, List.getElem?_eq_getElem h]; rfl
/-- literals take as many bytes as they are -/
theorem gm_lits {p s : List UInt8} : ∀ (n i : Nat), i + n ≤ p.length → (∀ m, i ≤ m → m < i + n → p.getD m 0 ≠ 42) → gm e (p.drop i) s = true → n ≤ s.length ∧ gm e (p.drop (i + n)) (s.drop n) = true
  | 0, i, _, _, h => ⟨Nat.zero_le _, by simpa using h⟩
  | n + 1, i, hl, hn, h => by
    have ha := hn i (Nat.le_refl _) (by omega)
    rw [drop_getD (by omega)] at h
    cases s with
    | nil => rw [gm_lit0 ha] at h; cases h
    | cons c r =>
      rw [gm_lit ha, Bool.and_eq_true] at h
      obtain ⟨h1, h2⟩ := gm_lits (s := r) n (i + 1) (by omega) (fun m h1 h2 => hn m (by omega) (by omega)) h.2
      exact ⟨by rw [List.length_cons]; omega, by rw [List.drop_succ_cons, show i + (n + 1) = i + 1 + n by omega]; exact h2⟩
theorem Tried.later {p s : List UInt8} {i k mk j m : Nat} {st : Option Nat} (h : Tried e p s i k st mk) (hst : st = some j) (hm : mk < m) (hg : gm e (p.drop (j + 1)) (s.drop m) = true) : k < m + (i - j - 1) ∧ m + (i - j - 1) ≤ max m s.length ∧ gm e (p.drop i) (s.drop (m + (i - j - 1))) = true := by
  obtain ⟨h1, h2, h3, h4⟩ := h.hst j hst
  have hi := h.hi
  obtain ⟨g1, g2⟩ := gm_lits (i - j - 1) (j + 1) (by omega) (fun q h5 h6 => h4 q (by omega) (by omega)) hg
  rw [List.length_drop] at g1
  rw [List.drop_drop, show j + 1 + (i - j - 1) = i by omega] at g2
  exact ⟨by omega, by omega, g2⟩
theorem Tried.star {p s : List UInt8} {i k mk : Nat} {st : Option Nat} (h : Tried e p s i k st mk) (hi : i < p.length) (ha : p.getD i 0 = 42) : Tried e p s (i + 1) k (some i) k := by
  refine ⟨hi, h.hk, fun j hj => ?_, (fun hh => by cases hh), ?_⟩
  · cases hj
    exact ⟨by omega, by omega, ha, fun m h1 h2 => by omega⟩
  · have hk := h.hk
    rw [h.eq, drop_getD hi, ha, gm_star]
    constructor
    · rintro (⟨m, h1, h2⟩ | ⟨j, hj, m, h1, h2, h3⟩)
      · rw [List.length_drop] at h1
        rw [List.drop_drop] at h2
        by_cases hm : m = 0
        · subst hm; exact .inl (by simpa using h2)
        · exact .inr ⟨i, rfl, k + m, by omega, by omega, h2⟩
      · obtain ⟨l1, l2, l3⟩ := h.later hj h1 h3
        rw [drop_getD hi, ha, gm_star] at l3
        obtain ⟨q, q1, q2⟩ := l3
        rw [List.length_drop] at q1
        rw [List.drop_drop] at q2
        refine .inr ⟨i, rfl, m + (i - j - 1) + q, by omega, by omega, q2⟩
    · rintro (h1 | ⟨j, hj, m, h1, h2, h3⟩)
      · exact .inl ⟨0, Nat.zero_le _, by simpa using h1⟩
      · cases hj
        refine .inl ⟨m - k, by rw [List.length_drop]; omega, ?_⟩
        rw [List.drop_drop, show k + (m - k) = m by omega]; exact h3
theorem Tried.lit {p s : List UInt8} {i k mk : Nat} {st : Option Nat} (h : Tried e p s i k st mk) (hi : i < p.length) (hk : k < s.length) (ha : p.getD i 0 ≠ 42) (he : e (p.getD i 0) (s.getD k 0) = true) : Tried e p s (i + 1) (k + 1) st mk := by
  refine ⟨hi, hk, fun j hj => ?_, h.no, ?_⟩
  · obtain ⟨h1, h2, h3, h4⟩ := h.hst j hj
    exact ⟨by omega, by omega, h3, fun m m1 m2 => by
      by_cases hm : m = i
      · subst hm; exact ha
      · exact h4 m m1 (by omega)⟩
  · rw [h.eq, drop_getD hi, drop_getD hk, gm_lit ha, he, Bool.true_and]
theorem Tried.back {p s : List UInt8} {i k mk j : Nat} (h : Tried e p s i k (some j) mk) (hk : k < s.length) (hno : i < p.length → p.getD i 0 ≠ 42 ∧ e (p.getD i 0) (s.getD k 0) = false) : Tried e p s (j + 1) (mk + 1) (some j) (mk + 1) := by
  obtain ⟨h1, h2, h3, h4⟩ := h.hst j rfl
  have hi := h.hi
  refine ⟨by omega, by omega, fun q hq => ?_, (fun hh => by cases hh), ?_⟩
  · cases hq
    exact ⟨by omega, by omega, h3, fun m m1 m2 => by omega⟩
  · have hf : gm e (p.drop i) (s.drop k) = false := by
      by_cases hip : i < p.length
      · obtain ⟨a1, a2⟩ := hno hip
        rw [drop_getD hip, drop_getD hk, gm_lit a1, a2, Bool.false_and]
      · rw [List.drop_eq_nil_of_le (by omega), drop_getD hk, gm]
    rw [h.eq, hf]
    constructor
    · rintro (h5 | ⟨q, hq, m, m1, m2, m3⟩)
      · cases h5
      · cases hq
        by_cases hm : m = mk + 1
        · subst hm; exact .inl m3
        · exact .inr ⟨j, rfl, m, by omega, m2, m3⟩
    · rintro (h5 | ⟨q, hq, m, m1, m2, m3⟩)
      · exact .inr ⟨j, rfl, mk + 1, by omega, by omega, h5⟩
      · cases hq; exact .inr ⟨j, rfl, m, by omega, m2, m3⟩
theorem Tried.fail {p s : List UInt8} {i k mk : Nat} (h : Tried e p s i k none mk) (hk : k < s.length) (hno : i < p.length → p.getD i 0 ≠ 42 ∧ e (p.getD i 0) (s.getD k 0) = false) : gm e p s = false := by
  have hf : gm e (p.drop i) (s.drop k) = false := by
    by_cases hip : i < p.length
    · obtain ⟨a1, a2⟩ := hno hip
      rw [drop_getD hip, drop_getD hk, gm_lit a1, a2, Bool.false_and]
    · rw [List.drop_eq_nil_of_le (by omega), drop_getD hk, gm]
  rw [← Bool.not_eq_true, h.eq, hf]
  rintro (h | ⟨j, hj, _⟩)
  · cases h
  · cases hj
theorem gm_stars : ∀ p : List UInt8, gm e p [] = p.all fun c => decide (c = 42)
  | [] => by rw [gm]; rfl
  | a :: p => by rw [gm, gm_stars p, List.all_cons]
theorem Tried.done {p s : List UInt8} {i k mk : Nat} {st : Option Nat} (h : Tried e p s i k st mk) (hk : s.length ≤ k) : gm e p s = (p.drop i).all fun c => decide (c = 42) := by
  rw [← gm_stars (e := e), Bool.eq_iff_iff, h.eq, List.drop_eq_nil_of_le hk]
  constructor
  · rintro (h1 | ⟨j, hj, m, m1, m2, m3⟩)
    · exact h1
    · obtain ⟨l1, l2, l3⟩ := h.later hj m1 m3
      have := h.hk
      omega
  · exact .inl
end
end Go.Proofs.YtekbcbjimajnfaaGreatDoor
end
section
namespace Go.Proofs.YtekbcbjimajnfaaGreatDoor
set_option linter.unusedSimpArgs false
set_option linter.unusedVariables false
set_option maxRecDepth 20000
open Go.RowKit Go.Eng
inductive PC where
  | mk (op : Int) (kids : List PC) (lo hi : Int) (name text : List UInt8)
def PC.op : PC → Int | .mk op _ _ _ _ _ => op
def PC.kids : PC → List PC | .mk _ k _ _ _ _ => k
def PC.lo : PC → Int | .mk _ _ lo _ _ _ => lo
def PC.hi : PC → Int | .mk _ _ _ hi _ _ => hi
def PC.name : PC → List UInt8 | .mk _ _ _ _ n _ => n
def PC.text : PC → List UInt8 | .mk _ _ _ _ _ t => t
mutual
def cntP : PC → Nat
  | .mk _ kids _ _ _ _ => cntL kids + 1
def cntL : List PC → Nat
  | [] => 0
  | k :: r => cntP k + cntL r
end
theorem cntP_pos (c : PC) : 1 ≤ cntP c := by cases c; simp [cntP]
mutual
def depP : PC → Nat
  | .mk _ kids _ _ _ _ => depL kids + 1
def depL : List PC → Nat
  | [] => 0
  | k :: r => max (depP k) (depL r)
end
theorem depL_mem : ∀ {l : List PC} {k : PC}, k ∈ l → depP k ≤ depL l
  | a :: r, k, h => by
    rw [depL]
    rcases List.mem_cons.1 h with rfl | h
    · omega
    · have := depL_mem h; omega
theorem depP_kid {c k : PC} (h : k ∈ c.kids) : depP k < depP c := by
  cases c
  have := depL_mem h
  rw [depP]
  exact Nat.lt_succ_of_le this
/-- more than m within one another -/
def deepP : Nat → PC → Bool
  | 0, _ => true
  | m + 1, c => c.kids.any (deepP m)
mutual
def sizeP : PC → Int → Int
  | .mk _ kids _ _ _ _, most => sizeL kids 1 most
def sizeL : List PC → Int → Int → Int
  | [], n, _ => n
  | k :: r, n, most => if most < n then n else sizeL r (n + sizeP k (most - n)) most
end
mutual
theorem sizeP_eq : ∀ (c : PC) (most : Int), 0 ≤ most → sizeP c most = min (cntP c : Int) (most + 1)
  | .mk _ kids _ _ _ _, most, h => by
    rw [sizeP, sizeL_eq kids 1 most (by omega) (by omega), cntP]
    omega
theorem sizeL_eq : ∀ (l : List PC) (n most : Int), 1 ≤ n → n ≤ most + 1 → sizeL l n most = min (n + cntL l) (most + 1)
  | [], n, most, h1, h2 => by rw [sizeL, cntL]; omega
  | k :: r, n, most, h1, h2 => by
    rw [sizeL, cntL]
    have := cntP_pos k
    split
    · omega
    · rw [sizeP_eq k (most - n) (by omega), sizeL_eq r _ most (by omega) (by omega)]
      omega
end
def inB (n lo hi : Int) : Bool := !(decide (n < lo) || decide (hi < n))
def grpB (op : Int) : Bool := decide (op ≤ 3)
def rngB (op : Int) : Bool := decide (4 ≤ op) && decide (op ≤ 6)
def nmdB (op : Int) : Bool := decide (op = 7) || decide (op = 8)
def wrdB (op : Int) : Bool := decide (op = 7) || decide (9 ≤ op)
def loR (op : Int) : Int := if op = 5 then 0 else 1
def hiR (op : Int) : Int := if op = 5 then 3155759999 else if op = 6 then 1000000 else 5
/-! ### Equal -/
mutual
def sameP : PC → PC → Bool
  | .mk op kids lo hi n t, .mk op' kids' lo' hi' n' t' => decide (op = op') && (decide (lo = lo') && (decide (hi = hi') && (decide (n = n') && (decide (t = t') && sameL kids kids'))))
def sameL : List PC → List PC → Bool
  | [], [] => true
  | a :: r, b :: s => sameP a b && sameL r s
  | [], _ :: _ => false
  | _ :: _, [] => false
end
mutual
theorem sameP_refl : ∀ c : PC, sameP c c = true
  | .mk op kids lo hi n t => by simp [sameP, sameL_refl kids]
theorem sameL_refl : ∀ l : List PC, sameL l l = true
  | [] => rfl
  | a :: r => by rw [sameL, sameP_refl a, sameL_refl r]; rfl
end
/-! ### Plain -/
def joinB (op : Int) (k : PC) : Bool := (decide (op = 1) || decide (op = 2)) && decide (k.op = op)
def addK (op : Int) (out : List PC) (k : PC) : List PC := if joinB op k = true then out ++ k.kids else out ++ [k]
def pc0 : PC := .mk 0 [] 0 0 [] []
def finP (op : Int) (kids : List PC) (lo hi : Int) (n t : List UInt8) : PC :=
  if op = 3 ∧ (kids.getD 0 pc0).op = 3 then (kids.getD 0 pc0).kids.getD 0 pc0 else .mk op kids lo hi n t
mutual
def plainP : PC → PC
  | .mk op kids lo hi n t => finP op (plainL op kids []) lo hi n t
def plainL (op : Int) : List PC → List PC → List PC
  | [], out => out
  | k :: r, out => plainL op r (addK op out (plainP k))
end
/-! ### Holds -/
mutual
def holdsP (lf : PC → Bool) : PC → Bool
  | .mk op kids lo hi n t => if op = 1 then holdsA lf kids else if op = 2 then holdsO lf kids else if op = 3 then !holdsF lf kids else lf (.mk op [] lo hi n t)
def holdsA (lf : PC → Bool) : List PC → Bool
  | [] => true
  | k :: r => holdsP lf k && holdsA lf r
def holdsO (lf : PC → Bool) : List PC → Bool
  | [] => false
  | k :: r => holdsP lf k || holdsO lf r
def holdsF (lf : PC → Bool) : List PC → Bool
  | [] => false
  | k :: _ => holdsP lf k
end
theorem holdsA_all (lf : PC → Bool) : ∀ l : List PC, holdsA lf l = l.all (holdsP lf)
  | [] => rfl
  | k :: r => by rw [holdsA, holdsA_all lf r, List.all_cons]
theorem holdsO_any (lf : PC → Bool) : ∀ l : List PC, holdsO lf l = l.any (holdsP lf)
  | [] => rfl
  | k :: r => by rw [holdsO, holdsO_any lf r, List.any_cons]
/-! ### Right -/
/-- what a condition without its kids is asked: 'nk' is how many kids it has -/
def chdNo (txt : List UInt8 → Int) (nm : List UInt8 → Bool) (op : Int) (nk : Nat) (lo hi : Int) (n t : List UInt8) : Int :=
  if inB op 1 14 = false then 10
  else if (decide (0 < nk) && !grpB op || ((!decide (lo = 0) || !decide (hi = 0)) && !rngB op) || (!decide (n = []) && !nmdB op) || (!decide (t = []) && !wrdB op)) = true then 1
  else if ((decide (op = 1) || decide (op = 2)) && decide (nk < 2) || decide (op = 3) && !decide (nk = 1)) = true then 1
  else if (rngB op && (!inB lo (loR op) (hiR op) || !inB hi (loR op) (hiR op))) = true then 2
  else if (rngB op && decide (hi < lo)) = true then 5
  else if (nmdB op && !nm n) = true then 3
  else if wrdB op = true then txt t else 0
section
variable (hd : Int → Nat → Int → Int → List UInt8 → List UInt8 → Int)
mutual
def chkP : PC → Int
  | .mk op kids lo hi n t => if hd op kids.length lo hi n t ≠ 0 then hd op kids.length lo hi n t else chkL kids
def chkL : List PC → Int
  | [] => 0
  | k :: r => if chkP k ≠ 0 then chkP k else chkL r
end
end
end Go.Proofs.YtekbcbjimajnfaaGreatDoor
end
section
namespace Go.Proofs.YtekbcbjimajnfaaGreatDoor
set_option linter.unusedSimpArgs false
set_option linter.unusedVariables false
set_option maxRecDepth 20000
open Go.RowKit Go.Eng
section
variable {H : Type} {enc : TypeId × Value → H} {w : World}
def IntOk (n : Int) : Prop := (Lit.int .i64 n).wf = true
def ShortS (s : List UInt8) : Prop := s.length ≤ reachBytes
theorem reach_len : reachBytes ≤ 4611686018427387904 := by decide
def strEnc (l : List UInt8) : List Value := [str l]
theorem op_s : Opn enc Tryz.prog w 9 strEnc ShortS (fun l d => d = .lit (.string l)) := opn_str Tryz.underlying9
theorem op_i : Opn enc Tryz.prog w 3 (fun n : Int => [Value.int .i64 n]) IntOk (fun n d => d = .lit (.int .i64 n)) := opn_int Tryz.underlying3
theorem op_b : Opn enc Tryz.prog w 4 (fun b : Bool => [Value.bool b]) (fun _ => True) (fun b d => d = .lit (.bool b)) := opn_bool Tryz.underlying4
def slV {X : Type} (s : Sl X) : List Value := [.slice s.A s.q s.c]
def frmG (f : Frm) : Prop := ShortS f.m ∧ ShortS f.f ∧ ShortS f.fi
theorem op_frm : Opn enc Tryz.prog w 105 Frm.enc frmG (fun _ _ => True) :=
  (opn_struct Tryz.underlying105 co105 (opf_cons op_s rfl co9 (opf_cons op_s rfl co9 (opf_cons op_s rfl co9 (opf_cons op_i rfl co3 (opf_cons op_i rfl co3 (opf_cons op_b rfl co4 opf_nil))))))).map
    (fun p => (⟨p.1, p.2.1, p.2.2.1, p.2.2.2.1, p.2.2.2.2.1, p.2.2.2.2.2.1⟩ : Frm)) (fun _ => rfl) (fun _ h => ⟨h.1, h.2.1, h.2.2.1⟩) (fun _ _ _ => trivial)
theorem op_frms : Opn enc Tryz.prog w 98 slV (FrmsOk w) (fun _ _ => True) :=
  (opn_slice Tryz.underlying98 co105 (by decide) (by rw [bo105]; decide) (fun _ => rfl) op_frm).map (fun s => s) (fun _ => rfl)
    (fun s h => ⟨h.1, Nat.le_trans h.2.1 reach_len, fun f hf => ⟨Nat.le_trans (h.2.2 f hf).1 reach_len, Nat.le_trans (h.2.2 f hf).2.1 reach_len, Nat.le_trans (h.2.2 f hf).2.2 reach_len⟩⟩) (fun _ _ _ => trivial)
theorem op_flt : Opn enc Tryz.prog w 100 Flt.enc (FltOk w) (fun _ _ => True) :=
  (opn_struct Tryz.underlying100 co100 (opf_cons op_s rfl co9 (opf_cons op_s rfl co9 (opf_cons op_frms rfl co98 opf_nil)))).map
    (fun p => (⟨p.1, p.2.1, p.2.2.1⟩ : Flt)) (fun _ => rfl) (fun _ h => ⟨Nat.le_trans h.1 reach_len, Nat.le_trans h.2.1 reach_len, h.2.2.1⟩) (fun _ _ _ => trivial)
theorem op_flts : Opn enc Tryz.prog w 27 slV (FltsOk w) (fun _ _ => True) :=
  (opn_slice Tryz.underlying27 co100 (by decide) (by rw [bo100]; decide) (fun _ => rfl) op_flt).map (fun s => s) (fun _ => rfl)
    (fun s h => ⟨h.1, Nat.le_trans h.2.1 reach_len, h.2.2⟩) (fun _ _ _ => trivial)
theorem op_tag : Opn enc Tryz.prog w 92 STag.enc (fun t => ShortS t.n ∧ ShortS t.v) (fun _ _ => True) :=
  (opn_struct Tryz.underlying92 co92 (opf_cons op_s rfl co9 (opf_cons op_s rfl co9 opf_nil))).map
    (fun p => (⟨p.1, p.2.1⟩ : STag)) (fun _ => rfl) (fun _ h => ⟨h.1, h.2.1⟩) (fun _ _ _ => trivial)
theorem op_tags : Opn enc Tryz.prog w 28 slV (TagsOk w) (fun _ _ => True) :=
  (opn_slice Tryz.underlying28 co92 (by decide) (by rw [bo92]; decide) (fun _ => rfl) op_tag).map (fun s => s) (fun _ => rfl)
    (fun s h => ⟨h.1, Nat.le_trans h.2.1 reach_len, fun t ht => ⟨Nat.le_trans (h.2.2 t ht).1 reach_len, Nat.le_trans (h.2.2 t ht).2 reach_len⟩⟩) (fun _ _ _ => trivial)
theorem op_crumb : Opn enc Tryz.prog w 95 SCrumb.enc (fun c => IntOk c.at_ ∧ ShortS c.k ∧ ShortS c.t) (fun _ _ => True) :=
  (opn_struct Tryz.underlying95 co95 (opf_cons op_i rfl co3 (opf_cons op_s rfl co9 (opf_cons op_s rfl co9 opf_nil)))).map
    (fun p => (⟨p.1, p.2.1, p.2.2.1⟩ : SCrumb)) (fun _ => rfl) (fun _ h => ⟨h.1, h.2.1, h.2.2.1⟩) (fun _ _ _ => trivial)
theorem op_crumbs : Opn enc Tryz.prog w 29 slV (CrumbsOk w) (fun _ _ => True) :=
  (opn_slice Tryz.underlying29 co95 (by decide) (by rw [bo95]; decide) (fun _ => rfl) op_crumb).map (fun s => s) (fun _ => rfl)
    (fun s h => ⟨h.1, Nat.le_trans h.2.1 reach_len, fun t ht => ⟨Nat.le_trans (h.2.2 t ht).2.1 reach_len, Nat.le_trans (h.2.2 t ht).2.2 reach_len⟩⟩) (fun _ _ _ => trivial)
theorem op_evt : Opn enc Tryz.prog w 31 Evt.enc (Evt.Ok w) (fun _ _ => True) :=
  (opn_struct Tryz.underlying31 co31 (opf_cons op_s rfl co9 (opf_cons op_i rfl co3 (opf_cons op_i rfl co3 (opf_cons op_flts rfl co27 (opf_cons op_tags rfl co28 (opf_cons op_crumbs rfl co29 (opf_cons op_s rfl co9 (opf_cons op_s rfl co9 (opf_cons op_i rfl co3 opf_nil)))))))))).map
    (fun p => (⟨p.1, p.2.1, p.2.2.1, p.2.2.2.1, p.2.2.2.2.1, p.2.2.2.2.2.1, p.2.2.2.2.2.2.1, p.2.2.2.2.2.2.2.1, p.2.2.2.2.2.2.2.2.1⟩ : Evt)) (fun _ => rfl)
    (fun p h => by
      obtain ⟨h1, _, _, h4, h5, h6, h7, h8, _⟩ := h
      exact ⟨h4, h5, h6, Nat.le_trans h1 reach_len, Nat.le_trans h7 reach_len, Nat.le_trans h8 reach_len⟩) (fun _ _ _ => trivial)
end
end Go.Proofs.YtekbcbjimajnfaaGreatDoor
end
section
namespace Go.Proofs.YtekbcbjimajnfaaGreatDoor
set_option linter.unusedSimpArgs false
set_option linter.unusedVariables false
set_option maxRecDepth 20000
open Go.RowKit Go.Eng
inductive SC where
  | mk (op : Int) (A : Option Addr) (q c : Nat) (kids : List SC) (lo hi : Int) (name text : List UInt8)
def SC.op : SC → Int | .mk op _ _ _ _ _ _ _ _ => op
def SC.ad : SC → Option Addr | .mk _ A _ _ _ _ _ _ _ => A
def SC.q : SC → Nat | .mk _ _ q _ _ _ _ _ _ => q
def SC.c : SC → Nat | .mk _ _ _ c _ _ _ _ _ => c
def SC.lo : SC → Int | .mk _ _ _ _ _ lo _ _ _ => lo
def SC.hi : SC → Int | .mk _ _ _ _ _ _ hi _ _ => hi
def SC.nm : SC → List UInt8 | .mk _ _ _ _ _ _ _ n _ => n
def SC.tx : SC → List UInt8 | .mk _ _ _ _ _ _ _ _ t => t
def SC.enc (x : SC) : List Value := [.int .i64 x.op, .slice x.ad x.q x.c, .int .i64 x.lo, .int .i64 x.hi, str x.nm, str x.tx]
def SC.val (c : SC) : Value := .agg c.enc.toArray
def SC.kids : SC → List SC | .mk _ _ _ _ k _ _ _ _ => k
mutual
def SC.says : SC → PC
  | .mk op _ _ _ kids lo hi n t => .mk op (SC.saysL kids) lo hi n t
def SC.saysL : List SC → List PC
  | [] => []
  | k :: r => k.says :: SC.saysL r
end
theorem saysL_map : ∀ l : List SC, SC.saysL l = l.map SC.says
  | [] => rfl
  | k :: r => by rw [SC.saysL, saysL_map r]; rfl
theorem SC.says_mk {op lo hi : Int} {A : Option Addr} {q c : Nat} {kids : List SC} {n t : List UInt8} : (SC.mk op A q c kids lo hi n t).says = .mk op (kids.map SC.says) lo hi n t := by rw [SC.says, saysL_map]
theorem SC.says_kids (c : SC) : c.says.kids = c.kids.map SC.says := by cases c; rw [SC.says_mk]; rfl
theorem SC.enc_len (c : SC) : c.enc.length = 6 := rfl
inductive SC.Ok (w : World) : SC → Prop where
  | mk {op lo hi : Int} {A : Option Addr} {q c : Nat} {kids : List SC} {n t : List UInt8} (h : Sl.Ok SC.enc 6 w ⟨A, q, c, kids⟩) (hq : q ≤ 4611686018427387904) (hb : q * 80 ≤ 140737488355328) (hn : n.length ≤ 4611686018427387904) (ht : t.length ≤ 4611686018427387904) (hk : ∀ k ∈ kids, SC.Ok w k) : SC.Ok w (.mk op A q c kids lo hi n t)
/-- how deep it is -/
abbrev SC.dep (c : SC) : Nat := depP c.says
theorem SC.dep_kid {c k : SC} (hk : k ∈ c.kids) : k.dep < c.dep := depP_kid (by rw [SC.says_kids]; exact List.mem_map_of_mem hk)
theorem SC.ind {Q : SC → Prop} (h : ∀ c, (∀ k ∈ c.kids, Q k) → Q c) (c : SC) : Q c := by
  have key : ∀ (n : Nat) (c : SC), c.dep ≤ n → Q c := by
    intro n
    induction n with
    | zero => intro c hc; cases c; simp [SC.dep, SC.says, depP] at hc
    | succ n ih => intro c hc; exact h c fun k hk => ih k (by have := SC.dep_kid hk; omega)
  exact key _ c (Nat.le_refl _)
theorem SC.Ok.lift {w w' : World} {c : SC} (hb : Below w.heap.size w w') : c.Ok w → c.Ok w' := by
  refine SC.ind (Q := fun c => c.Ok w → c.Ok w') (fun c ih h => ?_) c
  cases h with
  | mk h1 h2 h6 h3 h4 h5 => exact .mk (h1.below hb) h2 h6 h3 h4 fun k hk => ih k hk (h5 k hk)
section
variable {H : Type} {enc : TypeId × Value → H} {w : World}
def condR (c : SC) (d : DataW H) : Prop := cntP c.says ≤ Rows.uptoBulk d
theorem bulk_all : ∀ (l : List SC) (es : List (DataW H)), es.length = l.length → (∀ (i : Nat) (a : SC) (x : DataW H), l[i]? = some a → es[i]? = some x → condR a x) → cntL (SC.saysL l) ≤ Rows.uptoBulkAll es
  | [], _, _, _ => by simp [SC.saysL, cntL]
  | a :: r, [], h, _ => by simp at h
  | a :: r, x :: xs, hl, h => by
    rw [SC.saysL, cntL, Rows.uptoBulkAll]
    have h1 := h 0 a x rfl rfl
    have h2 := bulk_all r xs (by simpa using hl) fun i b y hb hy => h (i + 1) b y (by simpa using hb) (by simpa using hy)
    have h1 : cntP a.says ≤ Rows.uptoBulk x := h1
    omega
theorem bulk_slice {s : Sl SC} {d : DataW H} (h : SlRel condR s d) : cntL (SC.saysL s.l) ≤ Rows.uptoBulk d := by
  obtain ⟨es, hd, hl, he⟩ := h
  have h1 := bulk_all s.l es hl he
  rcases hd with ⟨rfl, rfl⟩ | ⟨sp, rfl⟩
  · rw [Rows.uptoBulkAll] at h1; omega
  · rw [Rows.uptoBulk]; omega
theorem op_condN : ∀ N, OpnN N enc Tryz.prog w 36 SC.enc (SC.Ok w) (condR (H := H)) := by
  intro N
  induction N using Nat.strongRecOn with
  | _ N ih =>
    cases N with
    | zero => exact OpnN.zero
    | succ N =>
      have hk : OpnN N enc Tryz.prog w 34 (fun s : Sl SC => [.slice s.A s.q s.c]) (fun s => s.Ok SC.enc 6 w ∧ s.q ≤ reachBytes ∧ s.q * Tryz.prog.bytesOf 36 ≤ reachBytes ∧ ∀ a ∈ s.l, a.Ok w) (SlRel (condR (H := H))) := by
        cases N with
        | zero => exact OpnN.zero
        | succ M => exact opnN_slice Tryz.underlying34 co36 (by decide) (by rw [bo36]; decide) SC.enc_len (ih M (by omega))
      refine (opnN_struct Tryz.underlying36 co36 (opfN_cons op_i.n rfl co3 (opfN_cons hk rfl co34 (opfN_cons op_i.n rfl co3 (opfN_cons op_i.n rfl co3 (opfN_cons op_s.n rfl co9 (opfN_cons op_s.n rfl co9 opfN_nil))))))).map
        (fun p => SC.mk p.1 p.2.1.A p.2.1.q p.2.1.c p.2.1.l p.2.2.1 p.2.2.2.1 p.2.2.2.2.1 p.2.2.2.2.2.1) (fun _ => rfl) ?_ ?_
      · rintro p ⟨_, ⟨h2, h3, h4, h5⟩, _, _, h6, h7, _⟩
        rw [bo36] at h4
        exact .mk h2 (Nat.le_trans h3 reach_len) (Nat.le_trans h4 (by decide)) (Nat.le_trans h6 reach_len) (Nat.le_trans h7 reach_len) h5
      · rintro p d _ ⟨ds, rfl, d1, r1, rfl, _, d2, r2, rfl, h2, _⟩
        show cntP (SC.mk _ _ _ _ _ _ _ _ _).says ≤ _
        rw [SC.says, cntP, Rows.uptoBulk, Rows.uptoBulkAll, Rows.uptoBulkAll]
        have := bulk_slice h2
        omega
theorem op_cond : Opn enc Tryz.prog w 36 SC.enc (SC.Ok w) (condR (H := H)) := OpnN.all op_condN
end
end Go.Proofs.YtekbcbjimajnfaaGreatDoor
end
section
namespace Go.Proofs.YtekbcbjimajnfaaGreatDoor
set_option linter.unusedSimpArgs false
set_option linter.unusedVariables false
set_option maxRecDepth 20000
open Go.RowKit Go.Eng
def fndP {α : Type} (p : α → Bool) : List α → Nat → Int
  | [], _ => -1
  | a :: r, i => if p a = true then (i : Int) else fndP p r (i + 1)
theorem fndP_any {α : Type} (p : α → Bool) : ∀ (l : List α) (i : Nat), decide (0 ≤ fndP p l i) = l.any p
  | [], i => rfl
  | a :: r, i => by
    rw [fndP, List.any_cons]
    cases h : p a with
    | true => rw [if_pos rfl, Bool.true_or]; exact decide_eq_true (by omega)
    | false => rw [if_neg Bool.false_ne_true, fndP_any p r, Bool.false_or]
theorem IndexFC_any (A : Option Addr) (q c : Nat) (l : List SC) (g : FuncId) (cap : Array Value) (p : SC → Bool) (w : World) (hl : SlT SC.enc 6 w A q l) (hq : q ≤ 4611686018427387904) (hcf : ∀ args w, (callFunc g args).run Tryz.prog w = .ok (.enter g args) w)
    (hA : ∀ x ∈ l, ∀ w', Below w.heap.size w w' → Calls Tryz.prog g (#[x.val] ++ cap) w' fun e w'' => e = .returned (.bool (p x)) ∧ Below w'.heap.size w' w'') :
    Calls Tryz.prog 213 #[.slice A q c, .func (.func g) #[] cap] w fun e w' => e = .returned (.int .i64 (fndP p l 0)) ∧ Below w.heap.size w w' := by
  refine enter_args (args := [.slice A q c, .func (.func g) #[] cap]) (F := _) Tryz.func213 rfl Tryz.ntmps213 rfl rfl ?_
  intro Rb hRb hRn
  refine tx ?_
  refine sr 1 ?_
  refine sgs ?_
  refine tx ?_
  refine sr 1 ?_
  refine s1 (y_len_slice rfl rfl Tryz.underlying34) ?_
  refine sr 1 ?_
  refine sgo ?_
  refine T_block ?_
  refine lK1 (kf := [(4, 5), (8, 18)]) (kl := [(4, 5), (8, 18)]) (fun (i : Nat) => [(8, true, .int .i64 (i : Int))]) (fun (i : Nat) => []) (fun (i : Nat) => i ≤ q ∧ fndP p l 0 = fndP p (l.drop i) i) (fun (i : Nat) => q - i) 0 ?_ ?_ ?_ ?_
  · exact ⟨by omega, rfl⟩
  · exact ⟨rfl, trivial⟩
  · exact trivial
  rintro i ⟨hp1, hp2⟩
  refine tx ?_
  refine sr 1 ?_
  refine sgs ?_
  refine T_cond rfl ?_ ?_ <;> intro h9
  · try simp only [nrm] at h9
    obtain ⟨x, hx1, hx2⟩ := hl.at (i := i) (by omega)
    refine kgs ?_
    refine T_block ?_
    refine tx ?_
    refine sr 2 ?_
    refine sgx ?_
    refine sr 3 ?_
    refine s1 (y_indexAddr rfl rfl rfl Tryz.underlying34 sz36 (fun hg => hl.isSome (by omega)) (fun _ => by omega)) ?_
    refine s1 (y_loadT rfl rfl hl (fun _ => rfl) (fun _ => hx1) Tryz.underlying36 rfl sz36) ?_
    refine s1 (y_call rfl rfl rfl hcf (fun _ w hM => hA x (mem_at hx1) w hM.below)) ?_
    refine sgo ?_
    refine T_cond rfl ?_ ?_ <;> intro h16
    · skip
      refine tx ?_
      refine sr 2 ?_
      refine sgo ?_
      refine tr1 hRb fun w hM => ?_
      exact ⟨by rw [hp2, hx2, fndP, if_pos h16], hM.below⟩
    refine kgr ?_
    refine s1 (y_bin rfl rfl rfl (fun hg => b_add (by omega))) ?_
    refine sr 1 ?_
    refine S_nil (nK1 (kf := [(4, 5), (8, 18)]) (kl := [(4, 5), (8, 18)]) (i + 1) ?_ ?_ ?_ ?_)
    · omega
    · exact ⟨by omega, by rw [hp2, hx2, fndP, if_neg (by simp [h16])]⟩
    · exact ⟨rfl, trivial⟩
    · exact trivial
  try simp only [nrm] at h9
  refine egx ?_
  refine sr 1 ?_
  refine sgo ?_
  refine tr1 hRb fun w hM => ?_
  exact ⟨by rw [hp2, hl.end (by omega)]; rfl, hM.below⟩
theorem ContFC_any (A : Option Addr) (q c : Nat) (l : List SC) (g : FuncId) (cap : Array Value) (p : SC → Bool) (w : World) (hl : SlT SC.enc 6 w A q l) (hq : q ≤ 4611686018427387904) (hcf : ∀ args w, (callFunc g args).run Tryz.prog w = .ok (.enter g args) w)
    (hA : ∀ x ∈ l, ∀ w', Below w.heap.size w w' → Calls Tryz.prog g (#[x.val] ++ cap) w' fun e w'' => e = .returned (.bool (p x)) ∧ Below w'.heap.size w' w'') :
    Calls Tryz.prog 136 #[.slice A q c, .func (.func g) #[] cap] w fun e w' => e = .returned (.bool (l.any p)) ∧ Below w.heap.size w w' := by
  rw [← fndP_any p l 0]
  refine enter_args (args := [.slice A q c, .func (.func g) #[] cap]) (F := _) Tryz.func136 rfl Tryz.ntmps136 rfl rfl ?_
  intro Rb hRb hRn
  refine tx ?_
  refine sr 1 ?_
  refine sgx ?_
  refine sr 2 ?_
  refine s1 (y_call rfl rfl rfl cf213 (fun _ w hM => IndexFC_any A q c l g cap p w (hl.below hM.below) hq hcf fun x hx w1 hb => hA x hx w1 (hM.below.trans (hb.mono hM.below.size)))) ?_
  refine sr 2 ?_
  refine sgo ?_
  refine tr1 hRb fun w hM => ?_
  exact ⟨rfl, hM.below⟩
theorem cellK {w w' : World} {b off : Nat} {v : Value} (h : w.cell? ⟨b, off, none⟩ = some v ∧ b < w.heap.size) (hb : Below w.heap.size w w') : w'.cell? ⟨b, off, none⟩ = some v ∧ b < w'.heap.size :=
  ⟨by rw [World.cell?, hb.block _ h.2]; exact h.1, Nat.lt_of_lt_of_le h.2 hb.size⟩
theorem SC.Ok.parts {x : SC} {w : World} (h : x.Ok w) : Sl.Ok SC.enc 6 w ⟨x.ad, x.q, x.c, x.kids⟩ ∧ x.q ≤ 4611686018427387904 ∧ x.q * 80 ≤ 140737488355328 ∧ x.nm.length ≤ 4611686018427387904 ∧ x.tx.length ≤ 4611686018427387904 ∧ ∀ k ∈ x.kids, k.Ok w := by
  cases h with
  | mk h1 h2 h3 h4 h5 h6 => exact ⟨h1, h2, h3, h4, h5, h6⟩
def DeepAt (m : Nat) : Prop := ∀ (x : SC) (w : World), x.Ok w → Calls Tryz.prog 92 #[x.val, .int .i64 (m : Int)] w fun e w' => e = .returned (.bool (deepP m x.says)) ∧ Below w.heap.size w w'
theorem deep1_any (m : Nat) (hm : m ≤ 1000000) (ih : DeepAt m) (x : SC) (b : Nat) (w : World) (hk : x.Ok w) (hc : w.cell? ⟨b, 0, none⟩ = some (.int .i64 ((m + 1 : Nat) : Int)) ∧ b < w.heap.size) :
    Calls Tryz.prog 137 #[x.val, .pointer (some ⟨b, 0, none⟩)] w fun e w' => e = .returned (.bool (deepP m x.says)) ∧ Below w.heap.size w w' := by
  refine enter_args (args := [.agg #[.int .i64 x.op, .slice x.ad x.q x.c, .int .i64 x.lo, .int .i64 x.hi, str x.nm, str x.tx], .pointer (some ⟨b, 0, none⟩)]) (F := _) Tryz.func137 rfl Tryz.ntmps137 rfl rfl ?_
  intro Rb hRb hRn
  refine tx ?_
  refine S_box 2 2 rfl rfl rfl rfl rfl ?_
  intro b2
  refine sr 1 ?_
  refine sgx ?_
  refine s1 (yA 2 rfl Tryz.underlying36 sz36) ?_
  refine s1 (y_load_far rfl rfl hc.1 hc.2 Tryz.underlying3 rfl) ?_
  refine s1 (y_bin rfl rfl rfl (fun hg => b_subv (((m : Nat) : Int)) (by omega) (by omega))) ?_
  refine s1 (y_call rfl rfl rfl cf92 (fun _ w1 hM => ih x w1 (hk.lift hM.below))) ?_
  refine sr 1 ?_
  refine sgo ?_
  refine tr1 hRb fun w hM => ?_
  exact ⟨rfl, hM.below⟩
theorem deep_step (m : Nat) (hm : m + 1 ≤ 1000000) (ih : DeepAt m) : DeepAt (m + 1) := fun x w hok => by
  obtain ⟨hs, hq, hb, hn, ht, hk⟩ := hok.parts
  have e : deepP (m + 1) x.says = x.kids.any fun k => deepP m k.says := by rw [deepP, SC.says_kids, List.any_map]; rfl
  rw [e]
  refine enter_args (args := [.agg #[.int .i64 x.op, .slice x.ad x.q x.c, .int .i64 x.lo, .int .i64 x.hi, str x.nm, str x.tx], .int .i64 ((m + 1 : Nat) : Int)]) (F := _) Tryz.func92 rfl Tryz.ntmps92 rfl rfl ?_
  intro Rb hRb hRn
  refine tx ?_
  refine S_box 2 2 rfl rfl rfl rfl rfl ?_
  intro b2
  refine S_box 3 3 rfl rfl rfl rfl rfl ?_
  intro b3
  refine sr 1 ?_
  refine sgs ?_
  refine tx ?_
  refine s1 (yL 3 Tryz.underlying3) ?_
  refine sr 1 ?_
  refine sgo ?_
  refine T_cond rfl ?_ ?_ <;> intro h6
  · skip
    have : ((m + 1 : Nat) : Int) = 0 := by simpa using h6
    omega
  refine kgx ?_
  refine s1 (yF fa36_1) ?_
  refine s1 (yL 2 Tryz.underlying34) ?_
  refine s1 (y_makeFunc rfl rfl rfl rfl rfl) ?_
  refine s1 (y_call rfl rfl rfl cf136 (fun _ w1 hM => ContFC_any x.ad x.q x.c x.kids 137 _ (fun k => deepP m k.says) w1 (hs.t.below hM.below) hq cf137 (fun k hkm w2 hb2 => deep1_any m (by omega) ih k b3 w2 ((hk k hkm).lift (hM.below.trans (hb2.mono hM.below.size))) (cellK (hM.box_cell (i := 3) rfl rfl) hb2)))) ?_
  refine sr 1 ?_
  refine sgo ?_
  refine tr1 hRb fun w hM => ?_
  exact ⟨rfl, hM.below⟩
theorem deep_zero : DeepAt 0 := fun x w hok => by
  refine enter_args (args := [.agg #[.int .i64 x.op, .slice x.ad x.q x.c, .int .i64 x.lo, .int .i64 x.hi, str x.nm, str x.tx], .int .i64 ((0 : Nat) : Int)]) (F := _) Tryz.func92 rfl Tryz.ntmps92 rfl rfl ?_
  intro Rb hRb hRn
  refine tx ?_
  refine S_box 2 2 rfl rfl rfl rfl rfl ?_
  intro b2
  refine S_box 3 3 rfl rfl rfl rfl rfl ?_
  intro b3
  refine sr 1 ?_
  refine sgs ?_
  refine tx ?_
  refine s1 (yL 3 Tryz.underlying3) ?_
  refine sr 1 ?_
  refine sgo ?_
  refine T_cond rfl ?_ ?_ <;> intro h6
  · skip
    refine tx ?_
    refine sr 1 ?_
    refine sgo ?_
    refine tr1 hRb fun w hM => ?_
    exact ⟨rfl, hM.below⟩
  cases h6
theorem tooDeep_any : ∀ m : Nat, m ≤ 1000000 → DeepAt m
  | 0, _ => deep_zero
  | m + 1, h => deep_step m h (tooDeep_any m (by omega))
end Go.Proofs.YtekbcbjimajnfaaGreatDoor
end
section
namespace Go.Proofs.YtekbcbjimajnfaaGreatDoor
set_option linter.unusedSimpArgs false
set_option linter.unusedVariables false
set_option maxRecDepth 20000
open Go.RowKit Go.Eng
theorem SC.says_form (x : SC) : x.says = .mk x.op (x.kids.map SC.says) x.lo x.hi x.nm x.tx := by cases x; rw [SC.says_mk]; rfl
def SizeAt (x : SC) : Prop := ∀ (most : Int) (w : World), 0 ≤ most → most ≤ 1000000 → x.Ok w → Calls Tryz.prog 93 #[x.val, .int .i64 most] w fun e w' => e = .returned (.int .i64 (sizeP x.says most)) ∧ Below w.heap.size w w'
theorem size_step (x : SC) (ih : ∀ k ∈ x.kids, SizeAt k) : SizeAt x := fun most w hm0 hm1 hok => by
  obtain ⟨hs, hq, hb, hn, ht, hk⟩ := hok.parts
  have hl : SlT SC.enc 6 w x.ad x.q x.kids := hs.t
  rw [SC.says_form, sizeP]
  refine enter_args (args := [.agg #[.int .i64 x.op, .slice x.ad x.q x.c, .int .i64 x.lo, .int .i64 x.hi, str x.nm, str x.tx], .int .i64 most]) (F := _) Tryz.func93 rfl Tryz.ntmps93 rfl rfl ?_
  intro Rb hRb hRn
  refine tx ?_
  refine S_box 2 2 rfl rfl rfl rfl rfl ?_
  intro b2
  refine sr 1 ?_
  refine sgx ?_
  refine sr 1 ?_
  refine sgs ?_
  refine tx ?_
  refine s1 (yF fa36_1) ?_
  refine s1 (yL 2 Tryz.underlying34) ?_
  refine s1 (y_len_slice rfl rfl Tryz.underlying34) ?_
  refine sr 1 ?_
  refine sgo ?_
  refine T_block ?_
  refine lK2 (kf := [(5, 5), (7, 7), (11, 25)]) (kl := [(5, 5), (7, 7), (11, 25)]) (fun (i : Nat) (n : Int) => [(11, true, .int .i64 (i : Int)), (5, true, .int .i64 n)]) (fun (i : Nat) (n : Int) => []) (fun (i : Nat) (n : Int) => i ≤ x.q ∧ sizeL ((x.kids.drop i).map SC.says) n most = sizeL (x.kids.map SC.says) 1 most ∧ 1 ≤ n ∧ n ≤ most + 1) (fun (i : Nat) (n : Int) => x.q - i) 0 1 ?_ ?_ ?_ ?_
  · exact ⟨by omega, rfl, by omega, by omega⟩
  · exact ⟨rfl, rfl, trivial⟩
  · exact trivial
  rintro i n ⟨hp1, hp2, hp3, hp4⟩
  refine tx ?_
  refine sr 1 ?_
  refine sgs ?_
  refine T_cond rfl ?_ ?_ <;> intro h12
  · try simp only [nrm] at h12
    obtain ⟨k, hx1, hx2⟩ := hl.at (i := i) (by omega)
    rw [hx2, List.map_cons, sizeL] at hp2
    refine kgs ?_
    refine T_block ?_
    refine tx ?_
    refine s1 (y_indexAddr rfl rfl rfl Tryz.underlying34 sz36 (fun hg => hl.isSome (by omega)) (fun _ => by omega)) ?_
    refine s1 (y_loadT rfl rfl hl (fun _ => rfl) (fun _ => hx1) Tryz.underlying36 rfl sz36) ?_
    refine S_alloc 7 7 rfl rfl rfl rfl z36 ?_
    intro b7
    refine S_store 7 rfl rfl rfl rfl rfl rfl sz36 rfl rfl ?_
    refine sgs ?_
    refine tx ?_
    refine sr 3 ?_
    refine sgo ?_
    refine T_cond rfl ?_ ?_ <;> intro h17
    · try simp only [nrm] at h17
      have h17 : most < n := by omega
      rw [if_pos h17] at hp2
      refine egx ?_
      refine sr 2 ?_
      refine sgo ?_
      refine tr1 hRb fun w hM => ?_
      exact ⟨by rw [← hp2], hM.below⟩
    try simp only [nrm] at h17
    have h17 : ¬ most < n := by omega
    rw [if_neg h17] at hp2
    have hz := sizeP_eq k.says (most - n) (by omega)
    have hc := cntP_pos k.says
    refine kgr ?_
    refine sr 1 ?_
    refine s1 (yA 7 rfl Tryz.underlying36 sz36) ?_
    refine sr 2 ?_
    refine s1 (y_bin rfl rfl rfl (fun hg => b_sub (by omega))) ?_
    refine s1 (y_call rfl rfl rfl cf93 (fun _ w1 hM => ih k (mem_at hx1) (most - n) w1 (by omega) (by omega) ((hk k (mem_at hx1)).lift hM.below))) ?_
    refine s1 (y_bin rfl rfl rfl (fun hg => b_add (by omega))) ?_
    refine sr 1 ?_
    refine sgr ?_
    refine s1 (y_bin rfl rfl rfl (fun hg => b_add (by omega))) ?_
    refine sr 1 ?_
    refine S_nil (nK2 (kf := [(5, 5), (7, 7), (11, 25)]) (kl := [(5, 5), (7, 7), (11, 25)]) (i + 1) (n + sizeP k.says (most - n)) ?_ ?_ ?_ ?_)
    · omega
    · exact ⟨by omega, hp2, by omega, by omega⟩
    · exact ⟨rfl, rfl, trivial⟩
    · exact trivial
  try simp only [nrm] at h12
  refine egx ?_
  refine sr 2 ?_
  refine sgo ?_
  refine tr1 hRb fun w hM => ?_
  exact ⟨by rw [← hp2, hl.end (by omega)]; rfl, hM.below⟩
theorem size_any (x : SC) : SizeAt x := SC.ind (Q := SizeAt) size_step x
def badC (c : UInt8) : Bool := decide (((c.toNat : Nat) : Int) < 32) || decide ((126 : Int) < ((c.toNat : Nat) : Int))
def txtNo (s : List UInt8) : Int := if s = [] then 1 else if (200 : Int) < s.length then 4 else if s.any badC = true then 9 else 0
theorem drD {p : List UInt8} {i : Nat} (h : i < p.length) : p.drop i = p.getD i 0 :: p.drop (i + 1) := by
  rw [List.drop_eq_getElem_cons h, List.getD_eq_getElem?_getD, List.getElem?_eq_getElem h]; rfl
theorem checkText_any (s : List UInt8) (w : World) :
    Calls Tryz.prog 142 #[str s] w fun e w' => e = .returned (.int .i64 (txtNo s)) ∧ Below w.heap.size w w' := by
  refine enter_args (args := [str s]) (F := _) Tryz.func142 rfl Tryz.ntmps142 rfl rfl ?_
  intro Rb hRb hRn
  refine tx ?_
  refine sr 1 ?_
  refine sgs ?_
  refine T_block ?_
  refine tx ?_
  refine sr 1 ?_
  refine s1 (y_bin rfl rfl rfl (fun _ => b_eqls)) ?_
  refine sr 1 ?_
  refine sgo ?_
  refine T_cond rfl ?_ ?_ <;> intro h4
  · skip
    have h4 : s = [] := by simpa using h4
    have e1 : txtNo s = 1 := if_pos h4
    refine tx ?_
    refine sr 1 ?_
    refine sgo ?_
    refine tr1 hRb fun w hM => ?_
    exact ⟨by rw [e1], hM.below⟩
  have h4 : ¬ s = [] := by simpa using h4
  refine tx ?_
  refine sr 1 ?_
  refine s1 (y_len_str rfl rfl Tryz.underlying9) ?_
  refine sr 2 ?_
  refine sgo ?_
  refine T_cond rfl ?_ ?_ <;> intro h7
  · skip
    have h7 : (200 : Int) < s.length := by simpa using h7
    have e1 : txtNo s = 4 := by rw [txtNo, if_neg h4, if_pos h7]
    refine tx ?_
    refine sr 1 ?_
    refine sgo ?_
    refine tr1 hRb fun w hM => ?_
    exact ⟨by rw [e1], hM.below⟩
  have h7 : ¬ (200 : Int) < s.length := by simpa using h7
  refine kgs ?_
  refine tx ?_
  refine sr 1 ?_
  refine s1 (y_len_str rfl rfl Tryz.underlying9) ?_
  refine sr 1 ?_
  refine sgo ?_
  refine T_block ?_
  refine lK1 (kf := [(2, 3), (13, 26)]) (kl := [(2, 3), (13, 26)]) (fun (i : Nat) => [(13, true, .int .i64 (i : Int))]) (fun (i : Nat) => []) (fun (i : Nat) => i ≤ s.length ∧ (s.drop i).any badC = s.any badC) (fun (i : Nat) => s.length - i) 0 ?_ ?_ ?_ ?_
  · exact ⟨by omega, rfl⟩
  · exact ⟨rfl, trivial⟩
  · exact trivial
  rintro i ⟨hp1, hp2⟩
  refine tx ?_
  refine sr 1 ?_
  refine sgs ?_
  refine T_cond rfl ?_ ?_ <;> intro h14
  · try simp only [nrm] at h14
    have hd := drD (p := s) (i := i) (by omega)
    rw [hd, List.any_cons] at hp2
    refine kgs ?_
    refine T_block ?_
    refine tx ?_
    refine sr 2 ?_
    refine sgx ?_
    refine sr 2 ?_
    refine s1 (y_index_str rfl rfl rfl Tryz.underlying9 (fun _ => by omega)) ?_
    refine sr 2 ?_
    refine sg rfl (y_move rfl rfl) ?_
    refine sg rfl (y_move rfl rfl) ?_
    refine sg rfl (y_index_str rfl rfl rfl Tryz.underlying9 (fun hg => by simp only [Bool.true_and, Bool.and_eq_true, beq_iff_eq, decide_eq_true_eq, decide_eq_false_iff_not, Int.not_lt, Int.not_le] at hg; omega)) ?_
    refine sg rfl (y_bin rfl rfl rfl (fun _ => b_gtr)) ?_
    refine s1 (y_as (v' := .bool (badC (s.getD i 0))) (by exact rfl) (y_or rfl rfl rfl)) ?_
    refine sgo ?_
    refine T_cond rfl ?_ ?_ <;> intro h25
    · skip
      rw [h25, Bool.true_or] at hp2
      have e1 : txtNo s = 9 := by rw [txtNo, if_neg h4, if_neg h7, if_pos hp2.symm]
      refine tx ?_
      refine sr 1 ?_
      refine sgo ?_
      refine tr1 hRb fun w hM => ?_
      exact ⟨by rw [e1], hM.below⟩
    rw [h25, Bool.false_or] at hp2
    refine kgr ?_
    refine s1 (y_bin rfl rfl rfl (fun hg => b_add (by omega))) ?_
    refine sr 1 ?_
    refine S_nil (nK1 (kf := [(2, 3), (13, 26)]) (kl := [(2, 3), (13, 26)]) (i + 1) ?_ ?_ ?_ ?_)
    · omega
    · exact ⟨by omega, hp2⟩
    · exact ⟨rfl, trivial⟩
    · exact trivial
  try simp only [nrm] at h14
  refine egx ?_
  refine sr 1 ?_
  refine sgo ?_
  refine tr1 hRb fun w hM => ?_
  have e1 : s.any badC = false := by rw [← hp2, List.drop_eq_nil_of_le (by omega)]; rfl
  exact ⟨by rw [txtNo, if_neg h4, if_neg h7, if_neg (by rw [e1]; simp)], hM.below⟩
theorem groups_any (op : Int) (w : World) : Calls Tryz.prog 138 #[.int .i64 op] w fun e w' => e = .returned (.bool (grpB op)) ∧ Below w.heap.size w w' := by
  refine enter_args (args := [.int .i64 op]) (F := _) Tryz.func138 rfl Tryz.ntmps138 rfl rfl ?_
  intro Rb hRb hRn
  refine tx ?_
  refine sr 1 ?_
  refine sgx ?_
  refine sr 3 ?_
  refine sgo ?_
  refine tr1 hRb fun w hM => ?_
  exact ⟨rfl, hM.below⟩
theorem ranges_any (op : Int) (w : World) : Calls Tryz.prog 139 #[.int .i64 op] w fun e w' => e = .returned (.bool (rngB op)) ∧ Below w.heap.size w w' := by
  refine enter_args (args := [.int .i64 op]) (F := _) Tryz.func139 rfl Tryz.ntmps139 rfl rfl ?_
  intro Rb hRb hRn
  refine tx ?_
  refine sr 1 ?_
  refine sgx ?_
  refine sr 3 ?_
  refine sg rfl (y_move rfl rfl) ?_
  refine sg rfl (y_bin rfl rfl rfl (fun _ => b_leq)) ?_
  refine s1 (y_and rfl rfl rfl) ?_
  refine sr 1 ?_
  refine sgo ?_
  refine tr1 hRb fun w hM => ?_
  exact ⟨rfl, hM.below⟩
theorem named_any (op : Int) (w : World) : Calls Tryz.prog 140 #[.int .i64 op] w fun e w' => e = .returned (.bool (nmdB op)) ∧ Below w.heap.size w w' := by
  refine enter_args (args := [.int .i64 op]) (F := _) Tryz.func140 rfl Tryz.ntmps140 rfl rfl ?_
  intro Rb hRb hRn
  refine tx ?_
  refine sr 1 ?_
  refine sgx ?_
  refine sr 3 ?_
  refine sg rfl (y_move rfl rfl) ?_
  refine sg rfl (y_bin rfl rfl rfl (fun _ => b_eql)) ?_
  refine s1 (y_or rfl rfl rfl) ?_
  refine sr 1 ?_
  refine sgo ?_
  refine tr1 hRb fun w hM => ?_
  exact ⟨rfl, hM.below⟩
theorem worded_any (op : Int) (w : World) : Calls Tryz.prog 141 #[.int .i64 op] w fun e w' => e = .returned (.bool (wrdB op)) ∧ Below w.heap.size w w' := by
  refine enter_args (args := [.int .i64 op]) (F := _) Tryz.func141 rfl Tryz.ntmps141 rfl rfl ?_
  intro Rb hRb hRn
  refine tx ?_
  refine sr 1 ?_
  refine sgx ?_
  refine sr 3 ?_
  refine sg rfl (y_move rfl rfl) ?_
  refine sg rfl (y_bin rfl rfl rfl (fun _ => b_geq)) ?_
  refine s1 (y_or rfl rfl rfl) ?_
  refine sr 1 ?_
  refine sgo ?_
  refine tr1 hRb fun w hM => ?_
  exact ⟨rfl, hM.below⟩
theorem fout_any (n lo hi : Int) (w : World) : Calls Tryz.prog 55 #[.int .i64 n, .int .i64 lo, .int .i64 hi] w fun e w' => e = .returned (.bool (!inB n lo hi)) ∧ Below w.heap.size w w' := by
  refine enter_args (args := [.int .i64 n, .int .i64 lo, .int .i64 hi]) (F := _) Tryz.func55 rfl Tryz.ntmps55 rfl rfl ?_
  intro Rb hRb hRn
  refine tx ?_
  refine sr 1 ?_
  refine sgx ?_
  refine sr 4 ?_
  refine sg rfl (y_move rfl rfl) ?_
  refine sg rfl (y_move rfl rfl) ?_
  refine sg rfl (y_bin rfl rfl rfl (fun _ => b_gtr)) ?_
  refine s1 (y_or rfl rfl rfl) ?_
  refine sr 1 ?_
  refine sgo ?_
  refine tr1 hRb fun w hM => ?_
  exact ⟨by rw [inB, Bool.not_not], hM.below⟩
end Go.Proofs.YtekbcbjimajnfaaGreatDoor
end
section
namespace Go.Proofs.YtekbcbjimajnfaaGreatDoor
set_option linter.unusedSimpArgs false
set_option linter.unusedVariables false
set_option maxRecDepth 20000
open Go.RowKit Go.Eng
abbrev hdX (x : SC) : Int := chdNo txtNo nameOk x.op x.kids.length x.lo x.hi x.nm x.tx
def f1B (x : SC) : Bool := (decide (0 < x.kids.length) && !grpB x.op || ((!decide (x.lo = 0) || !decide (x.hi = 0)) && !rngB x.op) || (!decide (x.nm = []) && !nmdB x.op) || (!decide (x.tx = []) && !wrdB x.op))
def f2B (x : SC) : Bool := ((decide (x.op = 1) || decide (x.op = 2)) && decide (x.kids.length < 2) || decide (x.op = 3) && !decide (x.kids.length = 1))
def r1B (x : SC) : Bool := !inB x.lo (loR x.op) (hiR x.op) || !inB x.hi (loR x.op) (hiR x.op)
theorem hd_def (x : SC) : hdX x = if inB x.op 1 14 = false then 10 else if f1B x = true then 1 else if f2B x = true then 1 else if (rngB x.op && r1B x) = true then 2 else if (rngB x.op && decide (x.hi < x.lo)) = true then 5 else if (nmdB x.op && !nameOk x.nm) = true then 3 else if wrdB x.op = true then txtNo x.tx else 0 := rfl
abbrev chX (x : SC) : Int := chkP (chdNo txtNo nameOk) x.says
theorem chX_def (x : SC) : chX x = if hdX x ≠ 0 then hdX x else chkL (chdNo txtNo nameOk) (x.kids.map SC.says) := by
  show chkP _ x.says = _
  rw [SC.says_form, chkP, List.length_map]
theorem chX_hd {x : SC} {n : Int} (h : hdX x = n) (hn : n ≠ 0) : chX x = n := by rw [chX_def, h, if_pos hn]
theorem chX_kids {x : SC} (h : hdX x = 0) : chX x = chkL (chdNo txtNo nameOk) (x.kids.map SC.says) := by rw [chX_def, h, if_neg (by simp)]
def OneAt (x : SC) : Prop := ∀ w : World, x.Ok w → Calls Tryz.prog 94 #[x.val] w fun e w' => e = .returned (.int .i64 (chX x)) ∧ Below w.heap.size w w'
theorem hd_rest {x : SC} (h1 : inB x.op 1 14 = true) (h2 : f1B x = false) (h3 : f2B x = false) : hdX x = if (rngB x.op && r1B x) = true then 2 else if (rngB x.op && decide (x.hi < x.lo)) = true then 5 else if (nmdB x.op && !nameOk x.nm) = true then 3 else if wrdB x.op = true then txtNo x.tx else 0 := by
  rw [hd_def, if_neg (by rw [h1]; simp), if_neg (by rw [h2]; simp), if_neg (by rw [h3]; simp)]
theorem hd_late {x : SC} (h : hdX x = if (rngB x.op && r1B x) = true then 2 else if (rngB x.op && decide (x.hi < x.lo)) = true then 5 else if (nmdB x.op && !nameOk x.nm) = true then 3 else if wrdB x.op = true then txtNo x.tx else 0) (h1 : (rngB x.op && r1B x) = false) (h2 : (rngB x.op && decide (x.hi < x.lo)) = false) : hdX x = if (nmdB x.op && !nameOk x.nm) = true then 3 else if wrdB x.op = true then txtNo x.tx else 0 := by
  rw [h, if_neg (by rw [h1]; simp), if_neg (by rw [h2]; simp)]
set_option maxHeartbeats 3200000 in
theorem one_step (x : SC) (ih : ∀ k ∈ x.kids, OneAt k) : OneAt x := fun w hok => by
  obtain ⟨hs, hq, hb, hn, ht, hk⟩ := hok.parts
  have hl : SlT SC.enc 6 w x.ad x.q x.kids := hs.t
  have hlen := hl.len
  refine enter_args (args := [.agg #[.int .i64 x.op, .slice x.ad x.q x.c, .int .i64 x.lo, .int .i64 x.hi, str x.nm, str x.tx]]) (F := _) Tryz.func94 rfl Tryz.ntmps94 rfl rfl ?_
  intro Rb hRb hRn
  refine tx ?_
  refine S_box 1 1 rfl rfl rfl rfl rfl ?_
  intro b1
  refine sr 1 ?_
  refine sgs ?_
  refine tx ?_
  refine s1 (yF fa36_0) ?_
  refine s1 (yL 1 Tryz.underlying3) ?_
  refine s1 (y_call rfl rfl rfl cf55 (fun _ w _ => fout_any _ _ _ w)) ?_
  refine sgo ?_
  refine T_cond rfl ?_ ?_ <;> intro h11
  · skip
    have hi1 : inB x.op 1 14 = false := by simpa using h11
    have e1 : chX x = 10 := chX_hd (by rw [hd_def, if_pos hi1]) (by decide)
    refine tx ?_
    refine sr 1 ?_
    refine sgo ?_
    refine tr1 hRb fun w hM => ?_
    first | exact ⟨by rw [e1], hM.below⟩ | exact ⟨by rw [hch, ← hp2, hl.end (by omega)]; rfl, hM.below⟩
  have hi1 : inB x.op 1 14 = true := by simpa using h11
  refine kgs ?_
  refine tx ?_
  refine s1 (yF fa36_1) ?_
  refine s1 (yL 1 Tryz.underlying34) ?_
  refine s1 (y_len_slice rfl rfl Tryz.underlying34) ?_
  refine sr 2 ?_
  refine sg rfl (yF fa36_0) ?_
  refine sg rfl (yL 1 Tryz.underlying3) ?_
  refine sg rfl (y_call rfl rfl rfl cf138 (fun _ w _ => groups_any _ w)) ?_
  refine sg rfl (y_not rfl rfl) ?_
  refine s1 (y_and rfl rfl rfl) ?_
  refine sr 1 ?_
  refine sg rfl (yF fa36_2) ?_
  refine sg rfl (yL 1 Tryz.underlying3) ?_
  refine sg rfl (y_bin rfl rfl rfl (fun _ => b_neq)) ?_
  refine sg rfl (y_move rfl rfl) ?_
  refine sg rfl (yF fa36_3) ?_
  refine sg rfl (yL 1 Tryz.underlying3) ?_
  refine sg rfl (y_bin rfl rfl rfl (fun _ => b_neq)) ?_
  refine sg rfl (y_or rfl rfl rfl) ?_
  refine sg rfl (y_move rfl rfl) ?_
  refine sg rfl (yF fa36_0) ?_
  refine sg rfl (yL 1 Tryz.underlying3) ?_
  refine sg rfl (y_call rfl rfl rfl cf139 (fun _ w _ => ranges_any _ w)) ?_
  refine sg rfl (y_not rfl rfl) ?_
  refine sg rfl (y_and rfl rfl rfl) ?_
  refine s1 (y_or rfl rfl rfl) ?_
  refine sr 1 ?_
  refine sg rfl (yF fa36_4) ?_
  refine sg rfl (yL 1 Tryz.underlying9) ?_
  refine sg rfl (y_bin rfl rfl rfl (fun _ => b_neqs)) ?_
  refine sg rfl (y_move rfl rfl) ?_
  refine sg rfl (yF fa36_0) ?_
  refine sg rfl (yL 1 Tryz.underlying3) ?_
  refine sg rfl (y_call rfl rfl rfl cf140 (fun _ w _ => named_any _ w)) ?_
  refine sg rfl (y_not rfl rfl) ?_
  refine sg rfl (y_and rfl rfl rfl) ?_
  refine s1 (y_or rfl rfl rfl) ?_
  refine sr 1 ?_
  refine sg rfl (yF fa36_5) ?_
  refine sg rfl (yL 1 Tryz.underlying9) ?_
  refine sg rfl (y_bin rfl rfl rfl (fun _ => b_neqs)) ?_
  refine sg rfl (y_move rfl rfl) ?_
  refine sg rfl (yF fa36_0) ?_
  refine sg rfl (yL 1 Tryz.underlying3) ?_
  refine sg rfl (y_call rfl rfl rfl cf141 (fun _ w _ => worded_any _ w)) ?_
  refine sg rfl (y_not rfl rfl) ?_
  refine sg rfl (y_and rfl rfl rfl) ?_
  refine s1 (y_as (v' := .bool (f1B x)) (by simp only [f1B, hlen, Int.natCast_pos]) (y_or rfl rfl rfl)) ?_
  refine sgo ?_
  refine T_cond rfl ?_ ?_ <;> intro h59
  · skip
    have e1 : chX x = 1 := chX_hd (by rw [hd_def, if_neg (by rw [hi1]; simp), if_pos h59]) (by decide)
    refine tx ?_
    refine sr 1 ?_
    refine sgo ?_
    refine tr1 hRb fun w hM => ?_
    first | exact ⟨by rw [e1], hM.below⟩ | exact ⟨by rw [hch, ← hp2, hl.end (by omega)]; rfl, hM.below⟩
  refine kgs ?_
  refine tx ?_
  refine s1 (yF fa36_0) ?_
  refine s1 (yL 1 Tryz.underlying3) ?_
  refine sr 2 ?_
  refine sg rfl (yF fa36_0) ?_
  refine sg rfl (yL 1 Tryz.underlying3) ?_
  refine sg rfl (y_bin rfl rfl rfl (fun _ => b_eql)) ?_
  refine s1 (y_or rfl rfl rfl) ?_
  refine sr 1 ?_
  refine sg rfl (yF fa36_1) ?_
  refine sg rfl (yL 1 Tryz.underlying34) ?_
  refine sg rfl (y_len_slice rfl rfl Tryz.underlying34) ?_
  refine sg rfl (y_bin rfl rfl rfl (fun _ => b_lss)) ?_
  refine s1 (y_and rfl rfl rfl) ?_
  refine sr 1 ?_
  refine sg rfl (yF fa36_0) ?_
  refine sg rfl (yL 1 Tryz.underlying3) ?_
  refine sg rfl (y_bin rfl rfl rfl (fun _ => b_eql)) ?_
  refine sg rfl (y_move rfl rfl) ?_
  refine sg rfl (yF fa36_1) ?_
  refine sg rfl (yL 1 Tryz.underlying34) ?_
  refine sg rfl (y_len_slice rfl rfl Tryz.underlying34) ?_
  refine sg rfl (y_bin rfl rfl rfl (fun _ => b_neq)) ?_
  refine sg rfl (y_and rfl rfl rfl) ?_
  refine s1 (y_as (v' := .bool (f2B x)) (by rw [f2B, hlen, show decide (((x.q : Nat) : Int) < 2) = decide (x.q < 2) from decide_eq_decide.2 (by omega), show decide (((x.q : Nat) : Int) = 1) = decide (x.q = 1) from decide_eq_decide.2 (by omega)]) (y_or rfl rfl rfl)) ?_
  refine sgo ?_
  refine T_cond rfl ?_ ?_ <;> intro h84
  · skip
    have e1 : chX x = 1 := chX_hd (by rw [hd_def, if_neg (by rw [hi1]; simp), if_neg (by rw [h59]; simp), if_pos h84]) (by decide)
    refine tx ?_
    refine sr 1 ?_
    refine sgo ?_
    refine tr1 hRb fun w hM => ?_
    first | exact ⟨by rw [e1], hM.below⟩ | exact ⟨by rw [hch, ← hp2, hl.end (by omega)]; rfl, hM.below⟩
  have hre := hd_rest hi1 h59 h84
  refine kgs ?_
  refine tx ?_
  refine s1 (yF fa36_0) ?_
  refine s1 (yL 1 Tryz.underlying3) ?_
  refine s1 (y_call rfl rfl rfl cf139 (fun _ w _ => ranges_any _ w)) ?_
  refine sgo ?_
  refine T_cond rfl ?_ ?_ <;> intro h87
  · skip
    have hr : rngB x.op = true := h87
    refine tx ?_
    refine sr 2 ?_
    refine sgs ?_
    refine tx ?_
    refine s1 (yF fa36_0) ?_
    refine s1 (yL 1 Tryz.underlying3) ?_
    refine sgo ?_
    refine T_block ?_
    refine tx ?_
    refine sr 2 ?_
    refine sgo ?_
    refine T_cond rfl ?_ ?_ <;> intro h90
    · skip
      have hk5 : x.op = 5 := by simpa using h90
      refine T_region ?_
      refine sr 2 ?_
      refine sgs ?_
      refine tx ?_
      refine s1 (yF fa36_2) ?_
      refine s1 (yL 1 Tryz.underlying3) ?_
      refine sr 2 ?_
      refine s1 (y_call rfl rfl rfl cf55 (fun _ w _ => fout_any _ _ _ w)) ?_
      refine sr 1 ?_
      refine sg rfl (yF fa36_3) ?_
      refine sg rfl (yL 1 Tryz.underlying3) ?_
      refine sg rfl (y_move rfl rfl) ?_
      refine sg rfl (y_move rfl rfl) ?_
      refine sg rfl (y_call rfl rfl rfl cf55 (fun _ w _ => fout_any _ _ _ w)) ?_
      refine s1 (y_as (v' := .bool (r1B x)) (by rw [r1B, loR, hiR, if_pos hk5, if_pos hk5]) (y_or rfl rfl rfl)) ?_
      refine sgo ?_
      refine T_cond rfl ?_ ?_ <;> intro h105
      · skip
        have e1 : chX x = 2 := chX_hd (by rw [hre, if_pos (by rw [hr, h105]; rfl)]) (by decide)
        refine tx ?_
        refine sr 1 ?_
        refine sgo ?_
        refine tr1 hRb fun w hM => ?_
        first | exact ⟨by rw [e1], hM.below⟩ | exact ⟨by rw [hch, ← hp2, hl.end (by omega)]; rfl, hM.below⟩
      refine kgx ?_
      refine s1 (yF fa36_3) ?_
      refine s1 (yL 1 Tryz.underlying3) ?_
      refine s1 (yF fa36_2) ?_
      refine s1 (yL 1 Tryz.underlying3) ?_
      refine sr 1 ?_
      refine sgo ?_
      refine T_cond rfl ?_ ?_ <;> intro h110
      · skip
        have e1 : chX x = 5 := chX_hd (by rw [hre, if_neg (by rw [hr, h105]; simp), if_pos (by rw [hr, h110]; rfl)]) (by decide)
        refine tx ?_
        refine sr 1 ?_
        refine sgo ?_
        refine tr1 hRb fun w hM => ?_
        first | exact ⟨by rw [e1], hM.below⟩ | exact ⟨by rw [hch, ← hp2, hl.end (by omega)]; rfl, hM.below⟩
      have hla := hd_late hre (by rw [hr, h105]; rfl) (by rw [hr, h110]; rfl)
      refine kgs ?_
      refine tx ?_
      refine s1 (yF fa36_0) ?_
      refine s1 (yL 1 Tryz.underlying3) ?_
      refine s1 (y_call rfl rfl rfl cf140 (fun _ w _ => named_any _ w)) ?_
      refine sr 1 ?_
      refine sg rfl (yF fa36_4) ?_
      refine sg rfl (yL 1 Tryz.underlying9) ?_
      refine sg rfl (y_call rfl rfl rfl cf67 (fun _ w _ => IsName_any _ w)) ?_
      refine sg rfl (y_not rfl rfl) ?_
      refine s1 (y_and rfl rfl rfl) ?_
      refine sgo ?_
      refine T_cond rfl ?_ ?_ <;> intro h119
      · skip
        have e1 : chX x = 3 := chX_hd (by rw [hla, if_pos h119]) (by decide)
        refine tx ?_
        refine sr 1 ?_
        refine sgo ?_
        refine tr1 hRb fun w hM => ?_
        first | exact ⟨by rw [e1], hM.below⟩ | exact ⟨by rw [hch, ← hp2, hl.end (by omega)]; rfl, hM.below⟩
      rw [if_neg (by rw [h119]; simp)] at hla
      refine kgs ?_
      refine tx ?_
      refine s1 (yF fa36_0) ?_
      refine s1 (yL 1 Tryz.underlying3) ?_
      refine s1 (y_call rfl rfl rfl cf141 (fun _ w _ => worded_any _ w)) ?_
      refine sgo ?_
      refine T_cond rfl ?_ ?_ <;> intro h122
      · skip
        have hw : wrdB x.op = true := h122
        rw [if_pos hw] at hla
        refine tx ?_
        refine s1 (yF fa36_5) ?_
        refine s1 (yL 1 Tryz.underlying9) ?_
        refine s1 (y_call rfl rfl rfl cf142 (fun _ w _ => checkText_any _ w)) ?_
        refine sr 1 ?_
        refine sgx ?_
        refine sr 2 ?_
        refine sgo ?_
        refine T_cond rfl ?_ ?_ <;> intro h127
        · skip
          have hn0 : txtNo x.tx ≠ 0 := by simpa using h127
          have e1 : chX x = txtNo x.tx := chX_hd hla hn0
          refine tx ?_
          refine sr 2 ?_
          refine sgo ?_
          refine tr1 hRb fun w hM => ?_
          first | exact ⟨by rw [e1], hM.below⟩ | exact ⟨by rw [hch, ← hp2, hl.end (by omega)]; rfl, hM.below⟩
        have hn0 : txtNo x.tx = 0 := by simpa using h127
        have hch := chX_kids (hla.trans hn0)
        refine kgs ?_
        refine tx ?_
        refine s1 (yF fa36_1) ?_
        refine s1 (yL 1 Tryz.underlying34) ?_
        refine s1 (y_len_slice rfl rfl Tryz.underlying34) ?_
        refine sr 1 ?_
        refine sgo ?_
        refine T_block ?_
        refine lK1 (kf := [(2, 2), (7, 8), (132, 141)]) (kl := [(2, 2), (7, 8), (132, 141)]) (fun (i : Nat) => [(132, true, .int .i64 (i : Int))]) (fun (i : Nat) => []) (fun (i : Nat) => i ≤ x.q ∧ chkL (chdNo txtNo nameOk) ((x.kids.drop i).map SC.says) = chkL (chdNo txtNo nameOk) (x.kids.map SC.says)) (fun (i : Nat) => x.q - i) 0 ?_ ?_ ?_ ?_
        · exact ⟨by omega, rfl⟩
        · exact ⟨rfl, trivial⟩
        · exact trivial
        rintro i ⟨hp1, hp2⟩
        refine tx ?_
        refine sr 1 ?_
        refine sgs ?_
        refine T_cond rfl ?_ ?_ <;> intro h133
        · try simp only [nrm] at h133
          obtain ⟨k, hx1, hx2⟩ := hl.at (i := i) (by omega)
          rw [hx2, List.map_cons, chkL] at hp2
          refine kgs ?_
          refine T_block ?_
          refine tx ?_
          refine s1 (y_indexAddr rfl rfl rfl Tryz.underlying34 sz36 (fun hg => hl.isSome (by omega)) (fun _ => by omega)) ?_
          refine s1 (y_loadT rfl rfl hl (fun _ => rfl) (fun _ => hx1) Tryz.underlying36 rfl sz36) ?_
          refine S_alloc 7 7 rfl rfl rfl rfl z36 ?_
          intro b7
          refine S_store 7 rfl rfl rfl rfl rfl rfl sz36 rfl rfl ?_
          refine sgx ?_
          refine s1 (yA 7 rfl Tryz.underlying36 sz36) ?_
          refine s1 (y_call rfl rfl rfl cf94 (fun _ w1 hM => ih k (mem_at hx1) w1 ((hk k (mem_at hx1)).lift hM.below))) ?_
          refine sr 1 ?_
          refine sgx ?_
          refine sr 2 ?_
          refine sgo ?_
          refine T_cond rfl ?_ ?_ <;> intro h139
          · skip
            have hn1 : chX k ≠ 0 := by simpa using h139
            rw [if_pos hn1] at hp2
            have e1 : chX x = chX k := by rw [hch, ← hp2]
            refine tx ?_
            refine sr 2 ?_
            refine sgo ?_
            refine tr1 hRb fun w hM => ?_
            first | exact ⟨by rw [e1], hM.below⟩ | exact ⟨by rw [hch, ← hp2, hl.end (by omega)]; rfl, hM.below⟩
          have hn1 : chX k = 0 := by simpa using h139
          rw [if_neg (by rw [show chkP (chdNo txtNo nameOk) k.says = chX k from rfl, hn1]; simp)] at hp2
          refine kgr ?_
          refine s1 (y_bin rfl rfl rfl (fun hg => b_add (by omega))) ?_
          refine sr 1 ?_
          refine S_nil (nK1 (kf := [(2, 2), (7, 8), (132, 141)]) (kl := [(2, 2), (7, 8), (132, 141)]) (i + 1) ?_ ?_ ?_ ?_)
          · omega
          · exact ⟨by omega, hp2⟩
          · exact ⟨rfl, trivial⟩
          · exact trivial
        try simp only [nrm] at h133
        refine egx ?_
        refine sr 1 ?_
        refine sgo ?_
        refine tr1 hRb fun w hM => ?_
        first | exact ⟨by rw [e1], hM.below⟩ | exact ⟨by rw [hch, ← hp2, hl.end (by omega)]; rfl, hM.below⟩
      have hw : wrdB x.op = false := h122
      rw [if_neg (by rw [hw]; simp)] at hla
      have hch := chX_kids hla
      refine kgs ?_
      refine tx ?_
      refine s1 (yF fa36_1) ?_
      refine s1 (yL 1 Tryz.underlying34) ?_
      refine s1 (y_len_slice rfl rfl Tryz.underlying34) ?_
      refine sr 1 ?_
      refine sgo ?_
      refine T_block ?_
      refine lK1 (kf := [(2, 2), (7, 8), (132, 141)]) (kl := [(2, 2), (7, 8), (132, 141)]) (fun (i : Nat) => [(132, true, .int .i64 (i : Int))]) (fun (i : Nat) => []) (fun (i : Nat) => i ≤ x.q ∧ chkL (chdNo txtNo nameOk) ((x.kids.drop i).map SC.says) = chkL (chdNo txtNo nameOk) (x.kids.map SC.says)) (fun (i : Nat) => x.q - i) 0 ?_ ?_ ?_ ?_
      · exact ⟨by omega, rfl⟩
      · exact ⟨rfl, trivial⟩
      · exact trivial
      rintro i ⟨hp1, hp2⟩
      refine tx ?_
      refine sr 1 ?_
      refine sgs ?_
      refine T_cond rfl ?_ ?_ <;> intro h133
      · try simp only [nrm] at h133
        obtain ⟨k, hx1, hx2⟩ := hl.at (i := i) (by omega)
        rw [hx2, List.map_cons, chkL] at hp2
        refine kgs ?_
        refine T_block ?_
        refine tx ?_
        refine s1 (y_indexAddr rfl rfl rfl Tryz.underlying34 sz36 (fun hg => hl.isSome (by omega)) (fun _ => by omega)) ?_
        refine s1 (y_loadT rfl rfl hl (fun _ => rfl) (fun _ => hx1) Tryz.underlying36 rfl sz36) ?_
        refine S_alloc 7 7 rfl rfl rfl rfl z36 ?_
        intro b7
        refine S_store 7 rfl rfl rfl rfl rfl rfl sz36 rfl rfl ?_
        refine sgx ?_
        refine s1 (yA 7 rfl Tryz.underlying36 sz36) ?_
        refine s1 (y_call rfl rfl rfl cf94 (fun _ w1 hM => ih k (mem_at hx1) w1 ((hk k (mem_at hx1)).lift hM.below))) ?_
        refine sr 1 ?_
        refine sgx ?_
        refine sr 2 ?_
        refine sgo ?_
        refine T_cond rfl ?_ ?_ <;> intro h139
        · skip
          have hn1 : chX k ≠ 0 := by simpa using h139
          rw [if_pos hn1] at hp2
          have e1 : chX x = chX k := by rw [hch, ← hp2]
          refine tx ?_
          refine sr 2 ?_
          refine sgo ?_
          refine tr1 hRb fun w hM => ?_
          first | exact ⟨by rw [e1], hM.below⟩ | exact ⟨by rw [hch, ← hp2, hl.end (by omega)]; rfl, hM.below⟩
        have hn1 : chX k = 0 := by simpa using h139
        rw [if_neg (by rw [show chkP (chdNo txtNo nameOk) k.says = chX k from rfl, hn1]; simp)] at hp2
        refine kgr ?_
        refine s1 (y_bin rfl rfl rfl (fun hg => b_add (by omega))) ?_
        refine sr 1 ?_
        refine S_nil (nK1 (kf := [(2, 2), (7, 8), (132, 141)]) (kl := [(2, 2), (7, 8), (132, 141)]) (i + 1) ?_ ?_ ?_ ?_)
        · omega
        · exact ⟨by omega, hp2⟩
        · exact ⟨rfl, trivial⟩
        · exact trivial
      try simp only [nrm] at h133
      refine egx ?_
      refine sr 1 ?_
      refine sgo ?_
      refine tr1 hRb fun w hM => ?_
      first | exact ⟨by rw [e1], hM.below⟩ | exact ⟨by rw [hch, ← hp2, hl.end (by omega)]; rfl, hM.below⟩
    have hk5 : ¬ x.op = 5 := by simpa using h90
    refine tx ?_
    refine sr 2 ?_
    refine sgo ?_
    refine T_cond rfl ?_ ?_ <;> intro h92
    · skip
      have hk6 : x.op = 6 := by simpa using h92
      refine T_region ?_
      refine sr 1 ?_
      refine sgs ?_
      refine tx ?_
      refine s1 (yF fa36_2) ?_
      refine s1 (yL 1 Tryz.underlying3) ?_
      refine sr 2 ?_
      refine s1 (y_call rfl rfl rfl cf55 (fun _ w _ => fout_any _ _ _ w)) ?_
      refine sr 1 ?_
      refine sg rfl (yF fa36_3) ?_
      refine sg rfl (yL 1 Tryz.underlying3) ?_
      refine sg rfl (y_move rfl rfl) ?_
      refine sg rfl (y_move rfl rfl) ?_
      refine sg rfl (y_call rfl rfl rfl cf55 (fun _ w _ => fout_any _ _ _ w)) ?_
      refine s1 (y_as (v' := .bool (r1B x)) (by rw [r1B, loR, hiR, if_neg hk5, if_neg hk5, if_pos hk6]) (y_or rfl rfl rfl)) ?_
      refine sgo ?_
      refine T_cond rfl ?_ ?_ <;> intro h105
      · skip
        have e1 : chX x = 2 := chX_hd (by rw [hre, if_pos (by rw [hr, h105]; rfl)]) (by decide)
        refine tx ?_
        refine sr 1 ?_
        refine sgo ?_
        refine tr1 hRb fun w hM => ?_
        first | exact ⟨by rw [e1], hM.below⟩ | exact ⟨by rw [hch, ← hp2, hl.end (by omega)]; rfl, hM.below⟩
      refine kgx ?_
      refine s1 (yF fa36_3) ?_
      refine s1 (yL 1 Tryz.underlying3) ?_
      refine s1 (yF fa36_2) ?_
      refine s1 (yL 1 Tryz.underlying3) ?_
      refine sr 1 ?_
      refine sgo ?_
      refine T_cond rfl ?_ ?_ <;> intro h110
      · skip
        have e1 : chX x = 5 := chX_hd (by rw [hre, if_neg (by rw [hr, h105]; simp), if_pos (by rw [hr, h110]; rfl)]) (by decide)
        refine tx ?_
        refine sr 1 ?_
        refine sgo ?_
        refine tr1 hRb fun w hM => ?_
        first | exact ⟨by rw [e1], hM.below⟩ | exact ⟨by rw [hch, ← hp2, hl.end (by omega)]; rfl, hM.below⟩
      have hla := hd_late hre (by rw [hr, h105]; rfl) (by rw [hr, h110]; rfl)
      refine kgs ?_
      refine tx ?_
      refine s1 (yF fa36_0) ?_
      refine s1 (yL 1 Tryz.underlying3) ?_
      refine s1 (y_call rfl rfl rfl cf140 (fun _ w _ => named_any _ w)) ?_
      refine sr 1 ?_
      refine sg rfl (yF fa36_4) ?_
      refine sg rfl (yL 1 Tryz.underlying9) ?_
      refine sg rfl (y_call rfl rfl rfl cf67 (fun _ w _ => IsName_any _ w)) ?_
      refine sg rfl (y_not rfl rfl) ?_
      refine s1 (y_and rfl rfl rfl) ?_
      refine sgo ?_
      refine T_cond rfl ?_ ?_ <;> intro h119
      · skip
        have e1 : chX x = 3 := chX_hd (by rw [hla, if_pos h119]) (by decide)
        refine tx ?_
        refine sr 1 ?_
        refine sgo ?_
        refine tr1 hRb fun w hM => ?_
        first | exact ⟨by rw [e1], hM.below⟩ | exact ⟨by rw [hch, ← hp2, hl.end (by omega)]; rfl, hM.below⟩
      rw [if_neg (by rw [h119]; simp)] at hla
      refine kgs ?_
      refine tx ?_
      refine s1 (yF fa36_0) ?_
      refine s1 (yL 1 Tryz.underlying3) ?_
      refine s1 (y_call rfl rfl rfl cf141 (fun _ w _ => worded_any _ w)) ?_
      refine sgo ?_
      refine T_cond rfl ?_ ?_ <;> intro h122
      · skip
        have hw : wrdB x.op = true := h122
        rw [if_pos hw] at hla
        refine tx ?_
        refine s1 (yF fa36_5) ?_
        refine s1 (yL 1 Tryz.underlying9) ?_
        refine s1 (y_call rfl rfl rfl cf142 (fun _ w _ => checkText_any _ w)) ?_
        refine sr 1 ?_
        refine sgx ?_
        refine sr 2 ?_
        refine sgo ?_
        refine T_cond rfl ?_ ?_ <;> intro h127
        · skip
          have hn0 : txtNo x.tx ≠ 0 := by simpa using h127
          have e1 : chX x = txtNo x.tx := chX_hd hla hn0
          refine tx ?_
          refine sr 2 ?_
          refine sgo ?_
          refine tr1 hRb fun w hM => ?_
          first | exact ⟨by rw [e1], hM.below⟩ | exact ⟨by rw [hch, ← hp2, hl.end (by omega)]; rfl, hM.below⟩
        have hn0 : txtNo x.tx = 0 := by simpa using h127
        have hch := chX_kids (hla.trans hn0)
        refine kgs ?_
        refine tx ?_
        refine s1 (yF fa36_1) ?_
        refine s1 (yL 1 Tryz.underlying34) ?_
        refine s1 (y_len_slice rfl rfl Tryz.underlying34) ?_
        refine sr 1 ?_
        refine sgo ?_
        refine T_block ?_
        refine lK1 (kf := [(2, 2), (7, 8), (132, 141)]) (kl := [(2, 2), (7, 8), (132, 141)]) (fun (i : Nat) => [(132, true, .int .i64 (i : Int))]) (fun (i : Nat) => []) (fun (i : Nat) => i ≤ x.q ∧ chkL (chdNo txtNo nameOk) ((x.kids.drop i).map SC.says) = chkL (chdNo txtNo nameOk) (x.kids.map SC.says)) (fun (i : Nat) => x.q - i) 0 ?_ ?_ ?_ ?_
        · exact ⟨by omega, rfl⟩
        · exact ⟨rfl, trivial⟩
        · exact trivial
        rintro i ⟨hp1, hp2⟩
        refine tx ?_
        refine sr 1 ?_
        refine sgs ?_
        refine T_cond rfl ?_ ?_ <;> intro h133
        · try simp only [nrm] at h133
          obtain ⟨k, hx1, hx2⟩ := hl.at (i := i) (by omega)
          rw [hx2, List.map_cons, chkL] at hp2
          refine kgs ?_
          refine T_block ?_
          refine tx ?_
          refine s1 (y_indexAddr rfl rfl rfl Tryz.underlying34 sz36 (fun hg => hl.isSome (by omega)) (fun _ => by omega)) ?_
          refine s1 (y_loadT rfl rfl hl (fun _ => rfl) (fun _ => hx1) Tryz.underlying36 rfl sz36) ?_
          refine S_alloc 7 7 rfl rfl rfl rfl z36 ?_
          intro b7
          refine S_store 7 rfl rfl rfl rfl rfl rfl sz36 rfl rfl ?_
          refine sgx ?_
          refine s1 (yA 7 rfl Tryz.underlying36 sz36) ?_
          refine s1 (y_call rfl rfl rfl cf94 (fun _ w1 hM => ih k (mem_at hx1) w1 ((hk k (mem_at hx1)).lift hM.below))) ?_
          refine sr 1 ?_
          refine sgx ?_
          refine sr 2 ?_
          refine sgo ?_
          refine T_cond rfl ?_ ?_ <;> intro h139
          · skip
            have hn1 : chX k ≠ 0 := by simpa using h139
            rw [if_pos hn1] at hp2
            have e1 : chX x = chX k := by rw [hch, ← hp2]
            refine tx ?_
            refine sr 2 ?_
            refine sgo ?_
            refine tr1 hRb fun w hM => ?_
            first | exact ⟨by rw [e1], hM.below⟩ | exact ⟨by rw [hch, ← hp2, hl.end (by omega)]; rfl, hM.below⟩
          have hn1 : chX k = 0 := by simpa using h139
          rw [if_neg (by rw [show chkP (chdNo txtNo nameOk) k.says = chX k from rfl, hn1]; simp)] at hp2
          refine kgr ?_
          refine s1 (y_bin rfl rfl rfl (fun hg => b_add (by omega))) ?_
          refine sr 1 ?_
          refine S_nil (nK1 (kf := [(2, 2), (7, 8), (132, 141)]) (kl := [(2, 2), (7, 8), (132, 141)]) (i + 1) ?_ ?_ ?_ ?_)
          · omega
          · exact ⟨by omega, hp2⟩
          · exact ⟨rfl, trivial⟩
          · exact trivial
        try simp only [nrm] at h133
        refine egx ?_
        refine sr 1 ?_
        refine sgo ?_
        refine tr1 hRb fun w hM => ?_
        first | exact ⟨by rw [e1], hM.below⟩ | exact ⟨by rw [hch, ← hp2, hl.end (by omega)]; rfl, hM.below⟩
      have hw : wrdB x.op = false := h122
      rw [if_neg (by rw [hw]; simp)] at hla
      have hch := chX_kids hla
      refine kgs ?_
      refine tx ?_
      refine s1 (yF fa36_1) ?_
      refine s1 (yL 1 Tryz.underlying34) ?_
      refine s1 (y_len_slice rfl rfl Tryz.underlying34) ?_
      refine sr 1 ?_
      refine sgo ?_
      refine T_block ?_
      refine lK1 (kf := [(2, 2), (7, 8), (132, 141)]) (kl := [(2, 2), (7, 8), (132, 141)]) (fun (i : Nat) => [(132, true, .int .i64 (i : Int))]) (fun (i : Nat) => []) (fun (i : Nat) => i ≤ x.q ∧ chkL (chdNo txtNo nameOk) ((x.kids.drop i).map SC.says) = chkL (chdNo txtNo nameOk) (x.kids.map SC.says)) (fun (i : Nat) => x.q - i) 0 ?_ ?_ ?_ ?_
      · exact ⟨by omega, rfl⟩
      · exact ⟨rfl, trivial⟩
      · exact trivial
      rintro i ⟨hp1, hp2⟩
      refine tx ?_
      refine sr 1 ?_
      refine sgs ?_
      refine T_cond rfl ?_ ?_ <;> intro h133
      · try simp only [nrm] at h133
        obtain ⟨k, hx1, hx2⟩ := hl.at (i := i) (by omega)
        rw [hx2, List.map_cons, chkL] at hp2
        refine kgs ?_
        refine T_block ?_
        refine tx ?_
        refine s1 (y_indexAddr rfl rfl rfl Tryz.underlying34 sz36 (fun hg => hl.isSome (by omega)) (fun _ => by omega)) ?_
        refine s1 (y_loadT rfl rfl hl (fun _ => rfl) (fun _ => hx1) Tryz.underlying36 rfl sz36) ?_
        refine S_alloc 7 7 rfl rfl rfl rfl z36 ?_
        intro b7
        refine S_store 7 rfl rfl rfl rfl rfl rfl sz36 rfl rfl ?_
        refine sgx ?_
        refine s1 (yA 7 rfl Tryz.underlying36 sz36) ?_
        refine s1 (y_call rfl rfl rfl cf94 (fun _ w1 hM => ih k (mem_at hx1) w1 ((hk k (mem_at hx1)).lift hM.below))) ?_
        refine sr 1 ?_
        refine sgx ?_
        refine sr 2 ?_
        refine sgo ?_
        refine T_cond rfl ?_ ?_ <;> intro h139
        · skip
          have hn1 : chX k ≠ 0 := by simpa using h139
          rw [if_pos hn1] at hp2
          have e1 : chX x = chX k := by rw [hch, ← hp2]
          refine tx ?_
          refine sr 2 ?_
          refine sgo ?_
          refine tr1 hRb fun w hM => ?_
          first | exact ⟨by rw [e1], hM.below⟩ | exact ⟨by rw [hch, ← hp2, hl.end (by omega)]; rfl, hM.below⟩
        have hn1 : chX k = 0 := by simpa using h139
        rw [if_neg (by rw [show chkP (chdNo txtNo nameOk) k.says = chX k from rfl, hn1]; simp)] at hp2
        refine kgr ?_
        refine s1 (y_bin rfl rfl rfl (fun hg => b_add (by omega))) ?_
        refine sr 1 ?_
        refine S_nil (nK1 (kf := [(2, 2), (7, 8), (132, 141)]) (kl := [(2, 2), (7, 8), (132, 141)]) (i + 1) ?_ ?_ ?_ ?_)
        · omega
        · exact ⟨by omega, hp2⟩
        · exact ⟨rfl, trivial⟩
        · exact trivial
      try simp only [nrm] at h133
      refine egx ?_
      refine sr 1 ?_
      refine sgo ?_
      refine tr1 hRb fun w hM => ?_
      first | exact ⟨by rw [e1], hM.below⟩ | exact ⟨by rw [hch, ← hp2, hl.end (by omega)]; rfl, hM.below⟩
    have hk6 : ¬ x.op = 6 := by simpa using h92
    refine kgs ?_
    refine tx ?_
    refine s1 (yF fa36_2) ?_
    refine s1 (yL 1 Tryz.underlying3) ?_
    refine sr 2 ?_
    refine s1 (y_call rfl rfl rfl cf55 (fun _ w _ => fout_any _ _ _ w)) ?_
    refine sr 1 ?_
    refine sg rfl (yF fa36_3) ?_
    refine sg rfl (yL 1 Tryz.underlying3) ?_
    refine sg rfl (y_move rfl rfl) ?_
    refine sg rfl (y_move rfl rfl) ?_
    refine sg rfl (y_call rfl rfl rfl cf55 (fun _ w _ => fout_any _ _ _ w)) ?_
    refine s1 (y_as (v' := .bool (r1B x)) (by rw [r1B, loR, hiR, if_neg hk5, if_neg hk5, if_neg hk6]) (y_or rfl rfl rfl)) ?_
    refine sgo ?_
    refine T_cond rfl ?_ ?_ <;> intro h105
    · skip
      have e1 : chX x = 2 := chX_hd (by rw [hre, if_pos (by rw [hr, h105]; rfl)]) (by decide)
      refine tx ?_
      refine sr 1 ?_
      refine sgo ?_
      refine tr1 hRb fun w hM => ?_
      first | exact ⟨by rw [e1], hM.below⟩ | exact ⟨by rw [hch, ← hp2, hl.end (by omega)]; rfl, hM.below⟩
    refine kgx ?_
    refine s1 (yF fa36_3) ?_
    refine s1 (yL 1 Tryz.underlying3) ?_
    refine s1 (yF fa36_2) ?_
    refine s1 (yL 1 Tryz.underlying3) ?_
    refine sr 1 ?_
    refine sgo ?_
    refine T_cond rfl ?_ ?_ <;> intro h110
    · skip
      have e1 : chX x = 5 := chX_hd (by rw [hre, if_neg (by rw [hr, h105]; simp), if_pos (by rw [hr, h110]; rfl)]) (by decide)
      refine tx ?_
      refine sr 1 ?_
      refine sgo ?_
      refine tr1 hRb fun w hM => ?_
      first | exact ⟨by rw [e1], hM.below⟩ | exact ⟨by rw [hch, ← hp2, hl.end (by omega)]; rfl, hM.below⟩
    have hla := hd_late hre (by rw [hr, h105]; rfl) (by rw [hr, h110]; rfl)
    refine kgs ?_
    refine tx ?_
    refine s1 (yF fa36_0) ?_
    refine s1 (yL 1 Tryz.underlying3) ?_
    refine s1 (y_call rfl rfl rfl cf140 (fun _ w _ => named_any _ w)) ?_
    refine sr 1 ?_
    refine sg rfl (yF fa36_4) ?_
    refine sg rfl (yL 1 Tryz.underlying9) ?_
    refine sg rfl (y_call rfl rfl rfl cf67 (fun _ w _ => IsName_any _ w)) ?_
    refine sg rfl (y_not rfl rfl) ?_
    refine s1 (y_and rfl rfl rfl) ?_
    refine sgo ?_
    refine T_cond rfl ?_ ?_ <;> intro h119
    · skip
      have e1 : chX x = 3 := chX_hd (by rw [hla, if_pos h119]) (by decide)
      refine tx ?_
      refine sr 1 ?_
      refine sgo ?_
      refine tr1 hRb fun w hM => ?_
      first | exact ⟨by rw [e1], hM.below⟩ | exact ⟨by rw [hch, ← hp2, hl.end (by omega)]; rfl, hM.below⟩
    rw [if_neg (by rw [h119]; simp)] at hla
    refine kgs ?_
    refine tx ?_
    refine s1 (yF fa36_0) ?_
    refine s1 (yL 1 Tryz.underlying3) ?_
    refine s1 (y_call rfl rfl rfl cf141 (fun _ w _ => worded_any _ w)) ?_
    refine sgo ?_
    refine T_cond rfl ?_ ?_ <;> intro h122
    · skip
      have hw : wrdB x.op = true := h122
      rw [if_pos hw] at hla
      refine tx ?_
      refine s1 (yF fa36_5) ?_
      refine s1 (yL 1 Tryz.underlying9) ?_
      refine s1 (y_call rfl rfl rfl cf142 (fun _ w _ => checkText_any _ w)) ?_
      refine sr 1 ?_
      refine sgx ?_
      refine sr 2 ?_
      refine sgo ?_
      refine T_cond rfl ?_ ?_ <;> intro h127
      · skip
        have hn0 : txtNo x.tx ≠ 0 := by simpa using h127
        have e1 : chX x = txtNo x.tx := chX_hd hla hn0
        refine tx ?_
        refine sr 2 ?_
        refine sgo ?_
        refine tr1 hRb fun w hM => ?_
        first | exact ⟨by rw [e1], hM.below⟩ | exact ⟨by rw [hch, ← hp2, hl.end (by omega)]; rfl, hM.below⟩
      have hn0 : txtNo x.tx = 0 := by simpa using h127
      have hch := chX_kids (hla.trans hn0)
      refine kgs ?_
      refine tx ?_
      refine s1 (yF fa36_1) ?_
      refine s1 (yL 1 Tryz.underlying34) ?_
      refine s1 (y_len_slice rfl rfl Tryz.underlying34) ?_
      refine sr 1 ?_
      refine sgo ?_
      refine T_block ?_
      refine lK1 (kf := [(2, 2), (7, 8), (132, 141)]) (kl := [(2, 2), (7, 8), (132, 141)]) (fun (i : Nat) => [(132, true, .int .i64 (i : Int))]) (fun (i : Nat) => []) (fun (i : Nat) => i ≤ x.q ∧ chkL (chdNo txtNo nameOk) ((x.kids.drop i).map SC.says) = chkL (chdNo txtNo nameOk) (x.kids.map SC.says)) (fun (i : Nat) => x.q - i) 0 ?_ ?_ ?_ ?_
      · exact ⟨by omega, rfl⟩
      · exact ⟨rfl, trivial⟩
      · exact trivial
      rintro i ⟨hp1, hp2⟩
      refine tx ?_
      refine sr 1 ?_
      refine sgs ?_
      refine T_cond rfl ?_ ?_ <;> intro h133
      · try simp only [nrm] at h133
        obtain ⟨k, hx1, hx2⟩ := hl.at (i := i) (by omega)
        rw [hx2, List.map_cons, chkL] at hp2
        refine kgs ?_
        refine T_block ?_
        refine tx ?_
        refine s1 (y_indexAddr rfl rfl rfl Tryz.underlying34 sz36 (fun hg => hl.isSome (by omega)) (fun _ => by omega)) ?_
        refine s1 (y_loadT rfl rfl hl (fun _ => rfl) (fun _ => hx1) Tryz.underlying36 rfl sz36) ?_
        refine S_alloc 7 7 rfl rfl rfl rfl z36 ?_
        intro b7
        refine S_store 7 rfl rfl rfl rfl rfl rfl sz36 rfl rfl ?_
        refine sgx ?_
        refine s1 (yA 7 rfl Tryz.underlying36 sz36) ?_
        refine s1 (y_call rfl rfl rfl cf94 (fun _ w1 hM => ih k (mem_at hx1) w1 ((hk k (mem_at hx1)).lift hM.below))) ?_
        refine sr 1 ?_
        refine sgx ?_
        refine sr 2 ?_
        refine sgo ?_
        refine T_cond rfl ?_ ?_ <;> intro h139
        · skip
          have hn1 : chX k ≠ 0 := by simpa using h139
          rw [if_pos hn1] at hp2
          have e1 : chX x = chX k := by rw [hch, ← hp2]
          refine tx ?_
          refine sr 2 ?_
          refine sgo ?_
          refine tr1 hRb fun w hM => ?_
          first | exact ⟨by rw [e1], hM.below⟩ | exact ⟨by rw [hch, ← hp2, hl.end (by omega)]; rfl, hM.below⟩
        have hn1 : chX k = 0 := by simpa using h139
        rw [if_neg (by rw [show chkP (chdNo txtNo nameOk) k.says = chX k from rfl, hn1]; simp)] at hp2
        refine kgr ?_
        refine s1 (y_bin rfl rfl rfl (fun hg => b_add (by omega))) ?_
        refine sr 1 ?_
        refine S_nil (nK1 (kf := [(2, 2), (7, 8), (132, 141)]) (kl := [(2, 2), (7, 8), (132, 141)]) (i + 1) ?_ ?_ ?_ ?_)
        · omega
        · exact ⟨by omega, hp2⟩
        · exact ⟨rfl, trivial⟩
        · exact trivial
      try simp only [nrm] at h133
      refine egx ?_
      refine sr 1 ?_
      refine sgo ?_
      refine tr1 hRb fun w hM => ?_
      first | exact ⟨by rw [e1], hM.below⟩ | exact ⟨by rw [hch, ← hp2, hl.end (by omega)]; rfl, hM.below⟩
    have hw : wrdB x.op = false := h122
    rw [if_neg (by rw [hw]; simp)] at hla
    have hch := chX_kids hla
    refine kgs ?_
    refine tx ?_
    refine s1 (yF fa36_1) ?_
    refine s1 (yL 1 Tryz.underlying34) ?_
    refine s1 (y_len_slice rfl rfl Tryz.underlying34) ?_
    refine sr 1 ?_
    refine sgo ?_
    refine T_block ?_
    refine lK1 (kf := [(2, 2), (7, 8), (132, 141)]) (kl := [(2, 2), (7, 8), (132, 141)]) (fun (i : Nat) => [(132, true, .int .i64 (i : Int))]) (fun (i : Nat) => []) (fun (i : Nat) => i ≤ x.q ∧ chkL (chdNo txtNo nameOk) ((x.kids.drop i).map SC.says) = chkL (chdNo txtNo nameOk) (x.kids.map SC.says)) (fun (i : Nat) => x.q - i) 0 ?_ ?_ ?_ ?_
    · exact ⟨by omega, rfl⟩
    · exact ⟨rfl, trivial⟩
    · exact trivial
    rintro i ⟨hp1, hp2⟩
    refine tx ?_
    refine sr 1 ?_
    refine sgs ?_
    refine T_cond rfl ?_ ?_ <;> intro h133
    · try simp only [nrm] at h133
      obtain ⟨k, hx1, hx2⟩ := hl.at (i := i) (by omega)
      rw [hx2, List.map_cons, chkL] at hp2
      refine kgs ?_
      refine T_block ?_
      refine tx ?_
      refine s1 (y_indexAddr rfl rfl rfl Tryz.underlying34 sz36 (fun hg => hl.isSome (by omega)) (fun _ => by omega)) ?_
      refine s1 (y_loadT rfl rfl hl (fun _ => rfl) (fun _ => hx1) Tryz.underlying36 rfl sz36) ?_
      refine S_alloc 7 7 rfl rfl rfl rfl z36 ?_
      intro b7
      refine S_store 7 rfl rfl rfl rfl rfl rfl sz36 rfl rfl ?_
      refine sgx ?_
      refine s1 (yA 7 rfl Tryz.underlying36 sz36) ?_
      refine s1 (y_call rfl rfl rfl cf94 (fun _ w1 hM => ih k (mem_at hx1) w1 ((hk k (mem_at hx1)).lift hM.below))) ?_
      refine sr 1 ?_
      refine sgx ?_
      refine sr 2 ?_
      refine sgo ?_
      refine T_cond rfl ?_ ?_ <;> intro h139
      · skip
        have hn1 : chX k ≠ 0 := by simpa using h139
        rw [if_pos hn1] at hp2
        have e1 : chX x = chX k := by rw [hch, ← hp2]
        refine tx ?_
        refine sr 2 ?_
        refine sgo ?_
        refine tr1 hRb fun w hM => ?_
        first | exact ⟨by rw [e1], hM.below⟩ | exact ⟨by rw [hch, ← hp2, hl.end (by omega)]; rfl, hM.below⟩
      have hn1 : chX k = 0 := by simpa using h139
      rw [if_neg (by rw [show chkP (chdNo txtNo nameOk) k.says = chX k from rfl, hn1]; simp)] at hp2
      refine kgr ?_
      refine s1 (y_bin rfl rfl rfl (fun hg => b_add (by omega))) ?_
      refine sr 1 ?_
      refine S_nil (nK1 (kf := [(2, 2), (7, 8), (132, 141)]) (kl := [(2, 2), (7, 8), (132, 141)]) (i + 1) ?_ ?_ ?_ ?_)
      · omega
      · exact ⟨by omega, hp2⟩
      · exact ⟨rfl, trivial⟩
      · exact trivial
    try simp only [nrm] at h133
    refine egx ?_
    refine sr 1 ?_
    refine sgo ?_
    refine tr1 hRb fun w hM => ?_
    first | exact ⟨by rw [e1], hM.below⟩ | exact ⟨by rw [hch, ← hp2, hl.end (by omega)]; rfl, hM.below⟩
  have hr : rngB x.op = false := h87
  have hla := hd_late hre (by rw [hr]; rfl) (by rw [hr]; rfl)
  refine kgs ?_
  refine tx ?_
  refine s1 (yF fa36_0) ?_
  refine s1 (yL 1 Tryz.underlying3) ?_
  refine s1 (y_call rfl rfl rfl cf140 (fun _ w _ => named_any _ w)) ?_
  refine sr 1 ?_
  refine sg rfl (yF fa36_4) ?_
  refine sg rfl (yL 1 Tryz.underlying9) ?_
  refine sg rfl (y_call rfl rfl rfl cf67 (fun _ w _ => IsName_any _ w)) ?_
  refine sg rfl (y_not rfl rfl) ?_
  refine s1 (y_and rfl rfl rfl) ?_
  refine sgo ?_
  refine T_cond rfl ?_ ?_ <;> intro h119
  · skip
    have e1 : chX x = 3 := chX_hd (by rw [hla, if_pos h119]) (by decide)
    refine tx ?_
    refine sr 1 ?_
    refine sgo ?_
    refine tr1 hRb fun w hM => ?_
    first | exact ⟨by rw [e1], hM.below⟩ | exact ⟨by rw [hch, ← hp2, hl.end (by omega)]; rfl, hM.below⟩
  rw [if_neg (by rw [h119]; simp)] at hla
  refine kgs ?_
  refine tx ?_
  refine s1 (yF fa36_0) ?_
  refine s1 (yL 1 Tryz.underlying3) ?_
  refine s1 (y_call rfl rfl rfl cf141 (fun _ w _ => worded_any _ w)) ?_
  refine sgo ?_
  refine T_cond rfl ?_ ?_ <;> intro h122
  · skip
    have hw : wrdB x.op = true := h122
    rw [if_pos hw] at hla
    refine tx ?_
    refine s1 (yF fa36_5) ?_
    refine s1 (yL 1 Tryz.underlying9) ?_
    refine s1 (y_call rfl rfl rfl cf142 (fun _ w _ => checkText_any _ w)) ?_
    refine sr 1 ?_
    refine sgx ?_
    refine sr 2 ?_
    refine sgo ?_
    refine T_cond rfl ?_ ?_ <;> intro h127
    · skip
      have hn0 : txtNo x.tx ≠ 0 := by simpa using h127
      have e1 : chX x = txtNo x.tx := chX_hd hla hn0
      refine tx ?_
      refine sr 2 ?_
      refine sgo ?_
      refine tr1 hRb fun w hM => ?_
      first | exact ⟨by rw [e1], hM.below⟩ | exact ⟨by rw [hch, ← hp2, hl.end (by omega)]; rfl, hM.below⟩
    have hn0 : txtNo x.tx = 0 := by simpa using h127
    have hch := chX_kids (hla.trans hn0)
    refine kgs ?_
    refine tx ?_
    refine s1 (yF fa36_1) ?_
    refine s1 (yL 1 Tryz.underlying34) ?_
    refine s1 (y_len_slice rfl rfl Tryz.underlying34) ?_
    refine sr 1 ?_
    refine sgo ?_
    refine T_block ?_
    refine lK1 (kf := [(2, 2), (7, 8), (132, 141)]) (kl := [(2, 2), (7, 8), (132, 141)]) (fun (i : Nat) => [(132, true, .int .i64 (i : Int))]) (fun (i : Nat) => []) (fun (i : Nat) => i ≤ x.q ∧ chkL (chdNo txtNo nameOk) ((x.kids.drop i).map SC.says) = chkL (chdNo txtNo nameOk) (x.kids.map SC.says)) (fun (i : Nat) => x.q - i) 0 ?_ ?_ ?_ ?_
    · exact ⟨by omega, rfl⟩
    · exact ⟨rfl, trivial⟩
    · exact trivial
    rintro i ⟨hp1, hp2⟩
    refine tx ?_
    refine sr 1 ?_
    refine sgs ?_
    refine T_cond rfl ?_ ?_ <;> intro h133
    · try simp only [nrm] at h133
      obtain ⟨k, hx1, hx2⟩ := hl.at (i := i) (by omega)
      rw [hx2, List.map_cons, chkL] at hp2
      refine kgs ?_
      refine T_block ?_
      refine tx ?_
      refine s1 (y_indexAddr rfl rfl rfl Tryz.underlying34 sz36 (fun hg => hl.isSome (by omega)) (fun _ => by omega)) ?_
      refine s1 (y_loadT rfl rfl hl (fun _ => rfl) (fun _ => hx1) Tryz.underlying36 rfl sz36) ?_
      refine S_alloc 7 7 rfl rfl rfl rfl z36 ?_
      intro b7
      refine S_store 7 rfl rfl rfl rfl rfl rfl sz36 rfl rfl ?_
      refine sgx ?_
      refine s1 (yA 7 rfl Tryz.underlying36 sz36) ?_
      refine s1 (y_call rfl rfl rfl cf94 (fun _ w1 hM => ih k (mem_at hx1) w1 ((hk k (mem_at hx1)).lift hM.below))) ?_
      refine sr 1 ?_
      refine sgx ?_
      refine sr 2 ?_
      refine sgo ?_
      refine T_cond rfl ?_ ?_ <;> intro h139
      · skip
        have hn1 : chX k ≠ 0 := by simpa using h139
        rw [if_pos hn1] at hp2
        have e1 : chX x = chX k := by rw [hch, ← hp2]
        refine tx ?_
        refine sr 2 ?_
        refine sgo ?_
        refine tr1 hRb fun w hM => ?_
        first | exact ⟨by rw [e1], hM.below⟩ | exact ⟨by rw [hch, ← hp2, hl.end (by omega)]; rfl, hM.below⟩
      have hn1 : chX k = 0 := by simpa using h139
      rw [if_neg (by rw [show chkP (chdNo txtNo nameOk) k.says = chX k from rfl, hn1]; simp)] at hp2
      refine kgr ?_
      refine s1 (y_bin rfl rfl rfl (fun hg => b_add (by omega))) ?_
      refine sr 1 ?_
      refine S_nil (nK1 (kf := [(2, 2), (7, 8), (132, 141)]) (kl := [(2, 2), (7, 8), (132, 141)]) (i + 1) ?_ ?_ ?_ ?_)
      · omega
      · exact ⟨by omega, hp2⟩
      · exact ⟨rfl, trivial⟩
      · exact trivial
    try simp only [nrm] at h133
    refine egx ?_
    refine sr 1 ?_
    refine sgo ?_
    refine tr1 hRb fun w hM => ?_
    first | exact ⟨by rw [e1], hM.below⟩ | exact ⟨by rw [hch, ← hp2, hl.end (by omega)]; rfl, hM.below⟩
  have hw : wrdB x.op = false := h122
  rw [if_neg (by rw [hw]; simp)] at hla
  have hch := chX_kids hla
  refine kgs ?_
  refine tx ?_
  refine s1 (yF fa36_1) ?_
  refine s1 (yL 1 Tryz.underlying34) ?_
  refine s1 (y_len_slice rfl rfl Tryz.underlying34) ?_
  refine sr 1 ?_
  refine sgo ?_
  refine T_block ?_
  refine lK1 (kf := [(2, 2), (7, 8), (132, 141)]) (kl := [(2, 2), (7, 8), (132, 141)]) (fun (i : Nat) => [(132, true, .int .i64 (i : Int))]) (fun (i : Nat) => []) (fun (i : Nat) => i ≤ x.q ∧ chkL (chdNo txtNo nameOk) ((x.kids.drop i).map SC.says) = chkL (chdNo txtNo nameOk) (x.kids.map SC.says)) (fun (i : Nat) => x.q - i) 0 ?_ ?_ ?_ ?_
  · exact ⟨by omega, rfl⟩
  · exact ⟨rfl, trivial⟩
  · exact trivial
  rintro i ⟨hp1, hp2⟩
  refine tx ?_
  refine sr 1 ?_
  refine sgs ?_
  refine T_cond rfl ?_ ?_ <;> intro h133
  · try simp only [nrm] at h133
    obtain ⟨k, hx1, hx2⟩ := hl.at (i := i) (by omega)
    rw [hx2, List.map_cons, chkL] at hp2
    refine kgs ?_
    refine T_block ?_
    refine tx ?_
    refine s1 (y_indexAddr rfl rfl rfl Tryz.underlying34 sz36 (fun hg => hl.isSome (by omega)) (fun _ => by omega)) ?_
    refine s1 (y_loadT rfl rfl hl (fun _ => rfl) (fun _ => hx1) Tryz.underlying36 rfl sz36) ?_
    refine S_alloc 7 7 rfl rfl rfl rfl z36 ?_
    intro b7
    refine S_store 7 rfl rfl rfl rfl rfl rfl sz36 rfl rfl ?_
    refine sgx ?_
    refine s1 (yA 7 rfl Tryz.underlying36 sz36) ?_
    refine s1 (y_call rfl rfl rfl cf94 (fun _ w1 hM => ih k (mem_at hx1) w1 ((hk k (mem_at hx1)).lift hM.below))) ?_
    refine sr 1 ?_
    refine sgx ?_
    refine sr 2 ?_
    refine sgo ?_
    refine T_cond rfl ?_ ?_ <;> intro h139
    · skip
      have hn1 : chX k ≠ 0 := by simpa using h139
      rw [if_pos hn1] at hp2
      have e1 : chX x = chX k := by rw [hch, ← hp2]
      refine tx ?_
      refine sr 2 ?_
      refine sgo ?_
      refine tr1 hRb fun w hM => ?_
      first | exact ⟨by rw [e1], hM.below⟩ | exact ⟨by rw [hch, ← hp2, hl.end (by omega)]; rfl, hM.below⟩
    have hn1 : chX k = 0 := by simpa using h139
    rw [if_neg (by rw [show chkP (chdNo txtNo nameOk) k.says = chX k from rfl, hn1]; simp)] at hp2
    refine kgr ?_
    refine s1 (y_bin rfl rfl rfl (fun hg => b_add (by omega))) ?_
    refine sr 1 ?_
    refine S_nil (nK1 (kf := [(2, 2), (7, 8), (132, 141)]) (kl := [(2, 2), (7, 8), (132, 141)]) (i + 1) ?_ ?_ ?_ ?_)
    · omega
    · exact ⟨by omega, hp2⟩
    · exact ⟨rfl, trivial⟩
    · exact trivial
  try simp only [nrm] at h133
  refine egx ?_
  refine sr 1 ?_
  refine sgo ?_
  refine tr1 hRb fun w hM => ?_
  first | exact ⟨by rw [e1], hM.below⟩ | exact ⟨by rw [hch, ← hp2, hl.end (by omega)]; rfl, hM.below⟩
theorem checkOne_any (x : SC) : OneAt x := SC.ind (Q := OneAt) one_step x
/-- the fault of a condition -/
def condNo (x : SC) : Int := if deepP 20 x.says = true then 13 else if 100 < sizeP x.says 100 then 4 else chX x
theorem CheckCond_any (x : SC) (w : World) (hok : x.Ok w) :
    Calls Tryz.prog 54 #[x.val] w fun e w' => e = .returned (.int .i64 (condNo x)) ∧ Below w.heap.size w w' := by
  refine enter_args (args := [.agg #[.int .i64 x.op, .slice x.ad x.q x.c, .int .i64 x.lo, .int .i64 x.hi, str x.nm, str x.tx]]) (F := _) Tryz.func54 rfl Tryz.ntmps54 rfl rfl ?_
  intro Rb hRb hRn
  refine tx ?_
  refine S_box 1 1 rfl rfl rfl rfl rfl ?_
  intro b1
  refine sr 1 ?_
  refine sgs ?_
  refine tx ?_
  refine s1 (yA 1 rfl Tryz.underlying36 sz36) ?_
  refine s1 (y_call rfl rfl rfl cf92 (fun _ w1 hM => tooDeep_any 20 (by decide) x w1 (hok.lift hM.below))) ?_
  refine sgo ?_
  refine T_cond rfl ?_ ?_ <;> intro h4
  · skip
    refine tx ?_
    refine sr 1 ?_
    refine sgo ?_
    refine tr1 hRb fun w hM => ?_
    exact ⟨by rw [condNo, if_pos h4], hM.below⟩
  refine kgs ?_
  refine tx ?_
  refine s1 (yA 1 rfl Tryz.underlying36 sz36) ?_
  refine s1 (y_call rfl rfl rfl cf93 (fun _ w1 hM => size_any x 100 w1 (by decide) (by decide) (hok.lift hM.below))) ?_
  refine sr 1 ?_
  refine sgo ?_
  refine T_cond rfl ?_ ?_ <;> intro h7
  · skip
    refine tx ?_
    refine sr 1 ?_
    refine sgo ?_
    refine tr1 hRb fun w hM => ?_
    exact ⟨by rw [condNo, if_neg (by rw [h4]; simp), if_pos (by simpa using h7)], hM.below⟩
  refine kgx ?_
  refine s1 (yA 1 rfl Tryz.underlying36 sz36) ?_
  refine s1 (y_call rfl rfl rfl cf94 (fun _ w1 hM => checkOne_any x w1 (hok.lift hM.below))) ?_
  refine sr 1 ?_
  refine sgo ?_
  refine tr1 hRb fun w hM => ?_
  exact ⟨by rw [condNo, if_neg (by rw [h4]; simp), if_neg (by simpa using h7)], hM.below⟩
end Go.Proofs.YtekbcbjimajnfaaGreatDoor
end
section
namespace Go.Proofs.YtekbcbjimajnfaaGreatDoor
set_option linter.unusedSimpArgs false
set_option linter.unusedVariables false
set_option maxRecDepth 20000
open Go.RowKit Go.Eng
def lowN (n : Nat) : Nat := if 65 ≤ n ∧ n ≤ 90 then n + 32 else n
def eqL (a b : UInt8) : Bool := decide (((lowN a.toNat : Nat) : Int) = ((lowN b.toNat : Nat) : Int))
theorem lower_any (n : Nat) (hn : n < 256) (w : World) :
    Calls Tryz.prog 112 #[.int .u8 (n : Int)] w fun e w' => e = .returned (.int .u8 ((lowN n : Nat) : Int)) ∧ Below w.heap.size w w' := by
  refine enter_args (args := [.int .u8 (n : Int)]) (F := _) Tryz.func112 rfl Tryz.ntmps112 rfl rfl ?_
  intro Rb hRb hRn
  refine tx ?_
  refine sr 1 ?_
  refine sgs ?_
  refine tx ?_
  refine sr 3 ?_
  refine sg rfl (y_move rfl rfl) ?_
  refine sg rfl (y_bin rfl rfl rfl (fun _ => b_leq)) ?_
  refine s1 (y_and rfl rfl rfl) ?_
  refine sgo ?_
  refine T_cond rfl ?_ ?_ <;> intro h8
  · skip
    have h8 : 65 ≤ n ∧ n ≤ 90 := by simp only [Bool.and_eq_true, decide_eq_true_eq] at h8; omega
    refine tx ?_
    refine sr 1 ?_
    refine s1 (y_bin rfl rfl rfl (fun hg => b_addw)) ?_
    refine s1 (y_bin rfl rfl rfl (fun hg => b_subw)) ?_
    refine sr 1 ?_
    refine sgo ?_
    refine tr1 hRb fun w hM => ?_
    exact ⟨by rw [lowN, if_pos h8]; congr 2; simp [IntKind.wrap, IntKind.signed, IntKind.bits]; omega, hM.below⟩
  have h8 : ¬ (65 ≤ n ∧ n ≤ 90) := by intro h; simp at h8; omega
  refine kgx ?_
  refine sr 2 ?_
  refine sgo ?_
  refine tr1 hRb fun w hM => ?_
  exact ⟨by rw [lowN, if_neg h8], hM.below⟩
def stI (st : Option Nat) : Int := st.elim (-1) fun j => (j : Int)
theorem Tried.mk_le {e : UInt8 → UInt8 → Bool} {p s : List UInt8} {i k mk : Nat} {st : Option Nat} (h : Tried e p s i k st mk) : mk ≤ k := by
  cases st with
  | none => rw [h.no rfl]; exact Nat.zero_le _
  | some j => have := (h.hst j rfl).2.1; omega
theorem lit_star {p : List UInt8} {i : Nat} (h : (decide (((i : Nat) : Int) < ((p.length : Nat) : Int)) && decide ((((p.getD i 0).toNat : Nat) : Int) = 42)) = true) : i < p.length ∧ p.getD i 0 = 42 := by
  simp only [Bool.and_eq_true, decide_eq_true_eq] at h
  exact ⟨by omega, UInt8.toNat_inj.1 (by show (p.getD i 0).toNat = 42; omega)⟩
theorem lit_no {p : List UInt8} {i : Nat} (h : (decide (((i : Nat) : Int) < ((p.length : Nat) : Int)) && decide ((((p.getD i 0).toNat : Nat) : Int) = 42)) = false) : i < p.length → p.getD i 0 ≠ 42 := by
  intro hi e
  rw [decide_eq_true (by omega), Bool.true_and, decide_eq_false_iff_not] at h
  exact h (by rw [e]; rfl)
theorem mu_star {a b c d e C : Nat} (h : a ≤ b) (h2 : d + 1 ≤ e) : (c - b) * C + (e - (d + 1)) < (c - a) * C + (e - d) := by
  have : (c - b) * C ≤ (c - a) * C := Nat.mul_le_mul_right C (by omega)
  omega
theorem mu_back {m c C x y : Nat} (h : m + 1 ≤ c) (hx : x < C) : (c - (m + 1)) * C + x < (c - m) * C + y := by
  have : (c - m) * C = (c - (m + 1)) * C + C := by rw [show c - m = (c - (m + 1)) + 1 by omega, Nat.succ_mul]
  omega
theorem dropWhile_nilF {p : UInt8 → Bool} : ∀ {l : List UInt8}, l.dropWhile p = [] → ∀ c ∈ l, p c = true
  | [], _ => fun c h => by cases h
  | a :: r, h => fun c hc => by
    rw [List.dropWhile_cons] at h
    split at h
    · rcases List.mem_cons.1 hc with rfl | hc
      · assumption
      · exact dropWhile_nilF h c hc
    · cases h
theorem dropWhile_headF {p : UInt8 → Bool} : ∀ {l : List UInt8} {y : UInt8} {t : List UInt8}, l.dropWhile p = y :: t → p y = false
  | [], y, t, h => by simp at h
  | a :: r, y, t, h => by
    rw [List.dropWhile_cons] at h
    split at h
    · exact dropWhile_headF h
    · rename_i hp
      obtain ⟨rfl, _⟩ := List.cons.inj h
      simpa using hp
theorem trimS_nilF {s cs : List UInt8} (h : Lib.trimS s cs = []) : ∀ c ∈ s, cs.contains c = true := by
  have h1 := dropWhile_nilF (l := Lib.trimRightS s cs) h
  have h2 : s.reverse.dropWhile (cs.contains ·) = [] := by
    cases hq : s.reverse.dropWhile (cs.contains ·) with
    | nil => rfl
    | cons y t =>
      have h3 := dropWhile_headF hq
      have h4 := h1 y (by unfold Lib.trimRightS; rw [hq]; simp)
      rw [h3] at h4; cases h4
  intro c hc
  exact dropWhile_nilF h2 c (List.mem_reverse.2 hc)
theorem dropWhile_allF {p : UInt8 → Bool} : ∀ {l : List UInt8}, (∀ c ∈ l, p c = true) → l.dropWhile p = []
  | [], _ => rfl
  | a :: r, h => by rw [List.dropWhile_cons, if_pos (h a (List.mem_cons_self ..)), dropWhile_allF fun c hc => h c (List.mem_cons_of_mem _ hc)]
theorem trimS_allF {s cs : List UInt8} (h : ∀ c ∈ s, cs.contains c = true) : Lib.trimS s cs = [] := by
  have h2 : s.reverse.dropWhile (cs.contains ·) = [] := dropWhile_allF fun c hc => h c (List.mem_reverse.1 hc)
  have h3 : Lib.trimRightS s cs = [] := by unfold Lib.trimRightS; rw [h2]; rfl
  unfold Lib.trimS; rw [h3]; rfl
theorem all_trim (s : List UInt8) : decide (Lib.trimS s [42] = []) = s.all fun c => decide (c = 42) := by
  rw [Bool.eq_iff_iff, decide_eq_true_eq, List.all_eq_true]
  constructor
  · intro h c hc
    have := trimS_nilF h c hc
    simpa using this
  · intro h
    exact trimS_allF fun c hc => by have := h c hc; simpa using this
theorem Fits_any (p s : List UInt8) (w : World) (hp : p.length ≤ 1000000000) (hs : s.length ≤ 4611686018427387904) :
    Calls Tryz.prog 77 #[str p, str s] w fun e w' => e = .returned (.bool (gm eqL p s)) ∧ Below w.heap.size w w' := by
  refine enter_args (args := [str p, str s]) (F := _) Tryz.func77 rfl Tryz.ntmps77 rfl rfl ?_
  intro Rb hRb hRn
  refine tx ?_
  refine sr 1 ?_
  refine sgx ?_
  refine sr 3 ?_
  refine sgs ?_
  refine tx ?_
  refine sr 1 ?_
  refine sgo ?_
  refine T_block ?_
  refine lK4 (kf := [(4, 55)]) (kl := [(4, 55)]) (fun (i : Nat) (k : Nat) (st : Option Nat) (mk : Nat) => [(5, true, .int .i64 (i : Int)), (6, true, .int .i64 (stI st)), (7, true, .int .i64 (mk : Int)), (8, true, .int .i64 (k : Int))]) (fun (i : Nat) (k : Nat) (st : Option Nat) (mk : Nat) => []) (fun (i : Nat) (k : Nat) (st : Option Nat) (mk : Nat) => Tried eqL p s i k st mk) (fun (i : Nat) (k : Nat) (st : Option Nat) (mk : Nat) => (s.length - mk) * (p.length + s.length + 2) + ((p.length + s.length + 1) - (i + k))) 0 0 none 0 ?_ ?_ ?_ ?_
  · exact Tried.start p s
  · exact ⟨rfl, rfl, rfl, rfl, trivial⟩
  · exact trivial
  rintro i k st mk ht
  refine T_seq ?_
  refine tx ?_
  refine sr 2 ?_
  refine s1 (y_len_str rfl rfl Tryz.underlying9) ?_
  refine sr 1 ?_
  refine sgo ?_
  refine T_cond rfl ?_ ?_ <;> intro h12
  · try simp only [nrm] at h12
    have hk : k < s.length := by omega
    have hmk := ht.mk_le
    have hil := ht.hi
    refine kgo ?_
    refine T_block ?_
    refine T_block ?_
    refine tx ?_
    refine sr 2 ?_
    refine s1 (y_len_str rfl rfl Tryz.underlying9) ?_
    refine sr 2 ?_
    refine sg rfl (y_move rfl rfl) ?_
    refine sg rfl (y_move rfl rfl) ?_
    refine sg rfl (y_index_str rfl rfl rfl Tryz.underlying9 (fun hg => by simp only [Bool.true_and, Bool.and_eq_true, beq_iff_eq, decide_eq_true_eq, decide_eq_false_iff_not, Int.not_lt, Int.not_le] at hg; omega)) ?_
    refine sg rfl (y_bin rfl rfl rfl (fun _ => b_eql)) ?_
    refine s1 (y_and rfl rfl rfl) ?_
    refine sr 1 ?_
    refine sgo ?_
    refine T_cond rfl ?_ ?_ <;> intro h13
    · skip
      have hi : i < p.length ∧ p.getD i 0 = 42 := lit_star h13
      refine tx ?_
      refine sr 4 ?_
      refine sgr ?_
      refine sr 1 ?_
      refine s1 (y_bin rfl rfl rfl (fun hg => b_add (by omega))) ?_
      refine sr 1 ?_
      refine S_nil (nK4 (kf := [(4, 55)]) (kl := [(4, 55)]) (i + 1) k (some i) k ?_ ?_ ?_ ?_)
      · simpa only [show i + 1 + k = i + k + 1 by omega] using mu_star (C := p.length + s.length + 2) (c := s.length) (d := i + k) (e := p.length + s.length + 1) hmk (by omega)
      · exact ht.star hi.1 hi.2
      · exact ⟨rfl, rfl, rfl, rfl, trivial⟩
      · exact trivial
    have hns : i < p.length → p.getD i 0 ≠ 42 := lit_no h13
    refine T_seq ?_
    refine T_draws (by kernel_rfl) (by kernel_rfl) ?_
    refine d1 (y_move rfl rfl) ?_
    refine d1 (y_move rfl rfl) ?_
    refine d1 (y_len_str rfl rfl Tryz.underlying9) ?_
    refine d1 (y_bin rfl rfl rfl (fun _ => b_lss)) ?_
    refine d1 (y_move rfl rfl) ?_
    refine dg rfl (y_move rfl rfl) ?_
    refine dg rfl (y_move rfl rfl) ?_
    refine dg rfl (y_index_str rfl rfl rfl Tryz.underlying9 (fun hg => by simp only [Bool.true_and, Bool.and_eq_true, beq_iff_eq, decide_eq_true_eq, decide_eq_false_iff_not, Int.not_lt, Int.not_le] at hg; omega)) ?_
    refine dg rfl (y_call rfl rfl rfl cf112 (fun _ w _ => lower_any _ (UInt8.toNat_lt _) w)) ?_
    refine dg rfl (y_move rfl rfl) ?_
    refine dg rfl (y_move rfl rfl) ?_
    refine dg rfl (y_index_str rfl rfl rfl Tryz.underlying9 (fun hg => by simp only [Bool.true_and, Bool.and_eq_true, beq_iff_eq, decide_eq_true_eq, decide_eq_false_iff_not, Int.not_lt, Int.not_le] at hg; omega)) ?_
    refine dg rfl (y_call rfl rfl rfl cf112 (fun _ w _ => lower_any _ (UInt8.toNat_lt _) w)) ?_
    refine dg rfl (y_bin rfl rfl rfl (fun _ => b_eql)) ?_
    refine d1 (y_and rfl rfl rfl) ?_
    refine d1 (y_assign rfl rfl) ?_
    refine dgo ?_
    refine T_cond rfl ?_ ?_ <;> intro h28
    · skip
      have hi : i < p.length ∧ eqL (p.getD i 0) (s.getD k 0) = true := by simp only [Bool.and_eq_true, decide_eq_true_eq] at h28; exact ⟨by omega, decide_eq_true h28.2⟩
      refine tx ?_
      refine sr 1 ?_
      refine s1 (y_bin rfl rfl rfl (fun hg => b_add (by omega))) ?_
      refine sr 1 ?_
      refine sgr ?_
      refine sr 1 ?_
      refine s1 (y_bin rfl rfl rfl (fun hg => b_add (by omega))) ?_
      refine sr 1 ?_
      refine S_nil (nK4 (kf := [(4, 55)]) (kl := [(4, 55)]) (i + 1) (k + 1) st mk ?_ ?_ ?_ ?_)
      · omega
      · exact ht.lit hi.1 hk (hns hi.1) hi.2
      · exact ⟨rfl, rfl, rfl, rfl, trivial⟩
      · exact trivial
    have hno : i < p.length → p.getD i 0 ≠ 42 ∧ eqL (p.getD i 0) (s.getD k 0) = false := fun h => ⟨hns h, by rw [decide_eq_true (show ((i : Nat) : Int) < p.length by omega), Bool.true_and] at h28; exact h28⟩
    refine tx ?_
    refine sr 3 ?_
    refine sgo ?_
    refine T_cond rfl ?_ ?_ <;> intro h48
    · skip
      obtain ⟨j, rfl⟩ : ∃ j, st = some j := by cases st with
        | none => simp [stI] at h48 <;> omega
        | some j => exact ⟨j, rfl⟩
      have hji := (ht.hst j rfl).1
      refine tx ?_
      refine sr 1 ?_
      refine s1 (y_bin rfl rfl rfl (fun hg => b_add (by omega))) ?_
      refine sr 1 ?_
      refine sgr ?_
      refine s1 (y_as (v' := .int .i64 ((j : Nat) : Int)) (by exact rfl) (y_move rfl rfl)) ?_
      refine s1 (y_bin rfl rfl rfl (fun hg => b_add (by omega))) ?_
      refine sr 3 ?_
      refine S_nil (nK4 (kf := [(4, 55)]) (kl := [(4, 55)]) (j + 1) (mk + 1) (some j) (mk + 1) ?_ ?_ ?_ ?_)
      · exact mu_back (by omega) (by omega)
      · exact ht.back hk hno
      · exact ⟨rfl, rfl, rfl, rfl, trivial⟩
      · exact trivial
    have hst : st = none := by cases st with
      | none => rfl
      | some j => simp [stI] at h48 <;> omega
    subst hst
    refine tx ?_
    refine sr 1 ?_
    refine sgo ?_
    refine tr1 hRb fun w hM => ?_
    exact ⟨by rw [ht.fail hk hno], hM.below⟩
  try simp only [nrm] at h12
  have hk : s.length ≤ k := by omega
  have hil := ht.hi
  refine egx ?_
  refine sr 2 ?_
  refine s1 (y_strFrom rfl rfl rfl Tryz.underlying9 (fun _ => by omega)) ?_
  refine s1 (y_call rfl rfl rfl cf84 (fun _ w _ => Any.strings_Trim_laid Tryz.lays160 (by kernel_rfl) ⟨(p.drop i).toArray⟩ ⟨([42] : List UInt8).toArray⟩ w (by rw [Lib.size_eq]; simp; omega) (by decide) (ascii_of_all (by decide)))) ?_
  refine s1 (y_bin rfl rfl rfl (fun _ => b_eqls)) ?_
  refine sr 1 ?_
  refine sgo ?_
  refine tr1 hRb fun w hM => ?_
  exact ⟨by rw [ht.done hk, ← all_trim], hM.below⟩
end Go.Proofs.YtekbcbjimajnfaaGreatDoor
end
section
namespace Go.Proofs.YtekbcbjimajnfaaGreatDoor
set_option linter.unusedSimpArgs false
set_option linter.unusedVariables false
set_option maxRecDepth 20000
open Go.RowKit Go.Eng
end Go.Proofs.YtekbcbjimajnfaaGreatDoor
end
section
namespace Go.Proofs.YtekbcbjimajnfaaGreatDoor
set_option linter.unusedSimpArgs false
set_option linter.unusedVariables false
set_option maxRecDepth 20000
open Go.RowKit Go.Eng
/-- what a fault says -/
def Flt.cont (f : Flt) : List UInt8 × List UInt8 × List Frm := (f.k, f.t, f.fr.l)
structure CopyR where
  A : Option Addr
  c : Nat
  gs : List Flt
  rs : List Row
  B : Option Addr
  b : Nat
  D : Option Addr
  d : Nat
def CopyR.evt (z : CopyR) (e : Evt) : Evt := { e with fa := ⟨z.A, e.fa.q, z.c, z.gs⟩, ta := ⟨z.B, e.ta.q, z.b, e.ta.l⟩, cr := ⟨z.D, e.cr.q, z.d, e.cr.l⟩ }
def CopyR.L (z : CopyR) (e : Evt) : HL := [(8, .own 100 3 (.slice z.A e.fa.q z.c) e.fa.q (z.gs.flatMap Flt.enc)), (900, .many z.rs), (35, .own 92 2 (.slice z.B e.ta.q z.b) e.ta.q (e.ta.l.flatMap STag.enc)), (39, .own 95 3 (.slice z.D e.cr.q z.d) e.cr.q (e.cr.l.flatMap SCrumb.enc))]
theorem set_next {gs : List Flt} {l : List Flt} {x y : Flt} {i : Nat} (hg : gs.length = i) (h : l.drop i = x :: l.drop (i + 1)) : (gs ++ l.drop i).set i y = (gs ++ [y]) ++ l.drop (i + 1) := by
  subst hg
  rw [h]; simp
theorem at_next {gs : List Flt} {l : List Flt} {x : Flt} {i : Nat} (hg : gs.length = i) (h : l.drop i = x :: l.drop (i + 1)) : (gs ++ l.drop i)[i]? = some x := by
  subst hg
  rw [h]; simp
theorem take_at {α : Type} {l : List α} {i : Nat} {x : α} (h : l[i]? = some x) : l.take (i + 1) = l.take i ++ [x] := by
  rw [List.take_add_one, h]; rfl
end Go.Proofs.YtekbcbjimajnfaaGreatDoor
end
section
namespace Go.Proofs.YtekbcbjimajnfaaGreatDoor
set_option linter.unusedSimpArgs false
set_option linter.unusedVariables false
set_option maxRecDepth 20000
open Go.RowKit Go.Eng
/-! ### lists that are mapped from their head on -/
def mpL {α : Type} (f : α → α) (l : List α) (i : Nat) : List α := (l.take i).map f ++ l.drop i
section
variable {α : Type} {f : α → α} {l : List α} {i : Nat} {x : α}
theorem mpL_end (h : l.length ≤ i) : mpL f l i = l.map f := by rw [mpL, List.take_of_length_le h, List.drop_eq_nil_of_le h, List.append_nil]
theorem mpL_map {β : Type} {h : α → β} (hf : ∀ x, h (f x) = h x) : (mpL f l i).map h = l.map h := by
  rw [mpL, List.map_append, List.map_map]
  have : (l.take i).map (h ∘ f) = (l.take i).map h := List.map_congr_left fun x _ => hf x
  rw [this, ← List.map_append, List.take_append_drop]
/-! ### sums -/
variable {k : α → Nat}
end
/-! ### the rule's work -/
def mk (r : SRl) (s : List UInt8) : List UInt8 := putM s 0 (fndR r s)
def clM (r : SRl) (x : Frm) : Frm := { x with fi := mk r x.fi }
def clF (r : SRl) (f : Flt) : Flt := ⟨f.k, if r.wh = 1 then mk r f.t else f.t, ⟨f.fr.A, f.fr.q, f.fr.c, if r.wh = 5 then f.fr.l.map (clM r) else f.fr.l⟩⟩
/-! ### what is bounded -/
structure LenE (e : Evt) : Prop where
  us : e.us.length ≤ 5000
  ta : ∀ t ∈ e.ta.l, t.n.length ≤ 4611686018427387904 ∧ t.v.length ≤ 5000
  cr : ∀ c ∈ e.cr.l, c.k.length ≤ 4611686018427387904 ∧ c.t.length ≤ 5000
  fa : ∀ f ∈ e.fa.l, f.t.length ≤ 5000 ∧ f.fr.q ≤ 1000 ∧ f.fr.l.length = f.fr.q ∧ ∀ x ∈ f.fr.l, x.fi.length ≤ 5000
  fq : e.fa.q ≤ 1000 ∧ e.fa.l.length = e.fa.q
  tq : e.ta.q ≤ 1000 ∧ e.ta.l.length = e.ta.q
  cq : e.cr.q ≤ 1000 ∧ e.cr.l.length = e.cr.q
/-! ### frames' rows -/
abbrev frRow (f : Flt) : Row := ⟨105, 6, .slice f.fr.A f.fr.q f.fr.c, f.fr.q, f.fr.l.flatMap Frm.enc⟩
def blkF (f : Flt) : Option Nat := (Value.slice f.fr.A f.fr.q f.fr.c).ownBlock
def DisF (l : List Flt) : Prop := (l.map blkF).Pairwise fun a b => ∀ g, a = some g → b ≠ some g
theorem clF_blk (r : SRl) (f : Flt) : blkF (clF r f) = blkF f := rfl
theorem DisF.mp {r : SRl} {l : List Flt} {i : Nat} (h : DisF l) : DisF (mpL (clF r) l i) := by
  unfold DisF
  rw [mpL_map (clF_blk r)]; exact h
theorem DisF.map {r : SRl} {l : List Flt} (h : DisF l) : DisF (l.map (clF r)) := by
  have := DisF.mp (r := r) (i := l.length) h
  rwa [mpL_end (Nat.le_refl _)] at this
end Go.Proofs.YtekbcbjimajnfaaGreatDoor
end
section
namespace Go.Proofs.YtekbcbjimajnfaaGreatDoor
set_option linter.unusedSimpArgs false
set_option linter.unusedVariables false
set_option maxRecDepth 20000
open Go.RowKit Go.Eng
end Go.Proofs.YtekbcbjimajnfaaGreatDoor
end
section
namespace Go.Proofs.YtekbcbjimajnfaaGreatDoor
set_option linter.unusedSimpArgs false
set_option linter.unusedVariables false
set_option maxRecDepth 20000
open Go.RowKit Go.Eng
theorem dis_snoc {l : List Flt} {x : Flt} (h : DisF l) (hx : ∀ f ∈ l, ∀ b, blkF f = some b → blkF x ≠ some b) : DisF (l ++ [x]) := by
  unfold DisF
  rw [List.map_append, List.pairwise_append]
  refine ⟨h, List.pairwise_singleton _ _, fun a ha b hb g hg => ?_⟩
  obtain ⟨f, hf, rfl⟩ := List.mem_map.1 ha
  rw [List.map_singleton, List.mem_singleton] at hb
  subst hb
  exact hx f hf g hg
set_option maxHeartbeats 1600000 in
theorem CopyD_any {w0 : World} {K : HL} (hK : FromK K) (e : Evt) (w : World) (he : e.Ok w0) (hn : e.fa.q ≤ 1000 ∧ e.ta.q ≤ 1000 ∧ e.cr.q ≤ 1000 ∧ ∀ f ∈ e.fa.l, f.fr.q ≤ 1000) (hM0 : Mem w0 ([] ++ K) w) :
    Calls Tryz.prog 45 #[e.val] w fun en w' => ∃ z : CopyR, en = .returned (z.evt e).val ∧ (z.gs.map Flt.cont = e.fa.l.map Flt.cont ∧ (∀ f ∈ z.gs, f.fr.q = f.fr.l.length) ∧ z.rs = z.gs.map frRow ∧ DisF z.gs) ∧ Mem w0 (z.L e ++ K) w' := by
  have hfa := he.fa
  have hft := hfa.ok.t
  have hfl := hft.len
  obtain ⟨hn1, hn2, hn3, hn4⟩ := hn
  refine enterM_args (args := [.agg #[str e.id, .int .i64 e.at_, .int .i64 e.lv, .slice e.fa.A e.fa.q e.fa.c, .slice e.ta.A e.ta.q e.ta.c, .slice e.cr.A e.cr.q e.cr.c, str e.rel, str e.us, .int .i64 e.wt]]) (F := _) hM0 Tryz.func45 rfl Tryz.ntmps45 rfl rfl ?_
  intro Rb hRb hRn
  refine tx ?_
  refine S_box 1 1 rfl rfl rfl rfl rfl ?_
  intro b1
  refine S_alloc 2 2 rfl rfl rfl rfl z31 ?_
  intro b2
  refine sgx ?_
  refine s1 (yF fa31_3) ?_
  refine s1 (yL 1 Tryz.underlying27) ?_
  refine S_callOwn 8 8 rfl rfl rfl rfl rfl rfl rfl cf46 (fun A c => .slice A (e.fa.q) c) 100 3 (e.fa.q) (e.fa.l.flatMap Flt.enc) (fun w hM => CloneFlt_any e.fa w (hfa.ok.below hM.below) (by omega)) ?_
  intro A8 c8
  refine s1 (yF fa31_3) ?_
  refine S_store 1 rfl rfl rfl rfl rfl rfl sz27 rfl rfl ?_
  refine sgs ?_
  refine tx ?_
  refine s1 (yF fa31_3) ?_
  refine s1 (yL 1 Tryz.underlying27) ?_
  refine s1 (y_len_slice rfl rfl Tryz.underlying27) ?_
  refine S_many0 900 ?_
  refine sr 1 ?_
  refine sgo ?_
  refine T_block ?_
  refine lK3 (kf := [(3, 5), (13, 32)]) (kl := [(3, 5), (8, 8), (13, 32), (900, 900)]) (fun (i : Nat) (gs : List Flt) (rs : List Row) => [(13, true, .int .i64 (i : Int))]) (fun (i : Nat) (gs : List Flt) (rs : List Row) => [(8, .own 100 3 (.slice A8 e.fa.q c8) e.fa.q ((gs ++ e.fa.l.drop i).flatMap Flt.enc)), (900, .many rs)]) (fun (i : Nat) (gs : List Flt) (rs : List Row) => i ≤ e.fa.q ∧ gs.length = i ∧ gs.map Flt.cont = (e.fa.l.take i).map Flt.cont ∧ (∀ f ∈ gs, f.fr.q = f.fr.l.length) ∧ rs = gs.map frRow ∧ DisF gs) (fun (i : Nat) (gs : List Flt) (rs : List Row) => e.fa.q - i) 0 [] [] ?_ ?_ ?_ ?_
  · exact ⟨by omega, rfl, rfl, fun _ h => by simp at h, rfl, List.Pairwise.nil⟩
  · exact ⟨rfl, trivial⟩
  · exact ⟨rfl, rfl, trivial⟩
  rintro i gs rs ⟨hp1, hp2, hp3, hp4, hp5, hp6⟩
  refine tx ?_
  refine sr 1 ?_
  refine sgs ?_
  refine T_cond rfl ?_ ?_ <;> intro h14
  · try simp only [nrm] at h14
    obtain ⟨x, hx1, hx2⟩ := hft.at (i := i) (by omega)
    have hxf := (hfa.n x (mem_at hx1)).fr
    have hxn := hn4 x (mem_at hx1)
    refine kgs ?_
    refine T_block ?_
    refine tx ?_
    refine sr 1 ?_
    refine s1 (y_indexOwn 8 rfl rfl rfl rfl Tryz.underlying27 sz100 (fun _ => by omega)) ?_
    refine s1 (y_loadO 8 rfl rfl rfl (by simp; omega) (fun _ => rfl) (fun _ => at_next hp2 hx2) Tryz.underlying100 rfl sz100) ?_
    refine S_alloc 4 4 rfl rfl rfl rfl z100 ?_
    intro b4
    refine sr 1 ?_
    refine S_store 4 rfl rfl rfl rfl rfl rfl sz100 rfl rfl ?_
    refine sgx ?_
    refine s1 (yF fa100_2) ?_
    refine s1 (yL 4 Tryz.underlying98) ?_
    refine s1 (y_len_slice rfl rfl Tryz.underlying98) ?_
    obtain ⟨i21, hi21, hz21, hs21, hy21⟩ := info_parts inf105
    refine S_makeSlice 21 21 rfl rfl rfl rfl rfl rfl Tryz.underlying98 hi21 hz21 hs21 (by rw [hy21]; omega) (by simp only [maxLen]; omega) rfl ?_
    intro b21
    refine sr 1 ?_
    refine sgx ?_
    refine sr 1 ?_
    refine s1 (yF fa100_2) ?_
    refine s1 (yL 4 Tryz.underlying98) ?_
    refine S_copy 25 21 rfl rfl rfl rfl rfl rfl rfl Tryz.underlying98 sz105 (fun w hM => (hxf.ok.below hM.below).t.rd) (fun v hv => by obtain ⟨a, _, ha⟩ := List.mem_flatMap.1 hv; simp [Frm.enc] at ha; rcases ha with rfl | rfl | rfl | rfl | rfl | rfl <;> rfl) ?_
    refine sgr ?_
    refine s1 (yF fa31_3) ?_
    refine s1 (yL 1 Tryz.underlying27) ?_
    refine sr 2 ?_
    refine s1 (y_indexOwn 8 rfl rfl rfl rfl Tryz.underlying27 sz100 (fun _ => by omega)) ?_
    refine s1 (y_fieldOwn 8 rfl rfl rfl (fun _ => by omega) fa100_2) ?_
    refine S_storeOwn 8 rfl rfl rfl rfl rfl rfl sz98 rfl rfl ?_ (xs' := ((gs ++ [(⟨x.k, x.t, (⟨some ⟨b21, 0, none⟩, x.fr.q, x.fr.q, x.fr.l⟩ : Sl Frm)⟩ : Flt)]) ++ e.fa.l.drop (i + 1)).flatMap Flt.enc) ?_ ?_
    · (rw [flat_lenN (enc := Flt.enc) (size := 3) (fun _ => rfl)]; simp; omega)
    · rw [← set_next hp2 hx2]; exact flat_set (enc := Flt.enc) (size := 3) (off := 2) (fun _ => rfl) (at_next hp2 hx2) (by decide) rfl
    refine sgr ?_
    refine s1 (y_bin rfl rfl rfl (fun hg => b_add (by omega))) ?_
    refine sr 1 ?_
    refine S_known (fun w hM => hM.apart_row (m := 900) (i := 21) rfl rfl rfl) (fun hap => ?_)
    refine S_bank [(21, 21), (900, 900)] 900 21 rfl rfl rfl rfl (by repeat (first | exact kl_nil | exact kl_rest (by assumption) rfl | (apply kl_in; focus rfl) | (apply kl_out; focus rfl))) ?_
    refine S_nil (nK3 (kf := [(3, 5), (13, 32)]) (kl := [(3, 5), (8, 8), (13, 32), (900, 900)]) (i + 1) (gs ++ [(⟨x.k, x.t, (⟨some ⟨b21, 0, none⟩, x.fr.q, x.fr.q, x.fr.l⟩ : Sl Frm)⟩ : Flt)]) (rs ++ [⟨105, 6, .slice (some ⟨b21, 0, none⟩) x.fr.q x.fr.q, x.fr.q, x.fr.l.flatMap Frm.enc⟩]) ?_ ?_ ?_ ?_)
    · omega
    · exact ⟨by omega, by simp [hp2], by rw [List.map_append, hp3, take_at hx1, List.map_append]; rfl, fun f hf => by
        rcases List.mem_append.1 hf with h | h
        · exact hp4 f h
        · simp only [List.mem_singleton] at h
          subst h
          exact hxf.ok.t.len.symm, by rw [hp5, List.map_append]; rfl, dis_snoc hp6 (fun f hf b hb he => hap (frRow f) (by rw [hp5]; exact List.mem_map.2 ⟨f, hf, rfl⟩) b he hb)⟩
    · exact ⟨rfl, trivial⟩
    · exact ⟨rfl, rfl, trivial⟩
  try simp only [nrm] at h14
  refine egx ?_
  refine s1 (yF fa31_4) ?_
  refine s1 (yL 1 Tryz.underlying28) ?_
  refine S_callOwn 35 35 rfl rfl rfl rfl rfl rfl rfl cf47 (fun A c => .slice A (e.ta.q) c) 92 2 (e.ta.q) (e.ta.l.flatMap STag.enc) (fun w hM => CloneTag_any e.ta w (he.ta.ok.below hM.below) (by omega)) ?_
  intro A35 c35
  refine s1 (yF fa31_4) ?_
  refine S_store 1 rfl rfl rfl rfl rfl rfl sz28 rfl rfl ?_
  refine sgx ?_
  refine s1 (yF fa31_5) ?_
  refine s1 (yL 1 Tryz.underlying29) ?_
  refine S_callOwn 39 39 rfl rfl rfl rfl rfl rfl rfl cf48 (fun A c => .slice A (e.cr.q) c) 95 3 (e.cr.q) (e.cr.l.flatMap SCrumb.enc) (fun w hM => CloneCrumb_any e.cr w (he.cr.ok.below hM.below) (by omega)) ?_
  intro A39 c39
  refine s1 (yF fa31_5) ?_
  refine S_store 1 rfl rfl rfl rfl rfl rfl sz29 rfl rfl ?_
  refine sgx ?_
  refine s1 (yA 1 rfl Tryz.underlying31 sz31) ?_
  refine S_store 2 rfl rfl rfl rfl rfl rfl sz31 rfl rfl ?_
  refine sgo ?_
  refine T_ret (fun a w hF hM => hRb a w (post_cell1 2 rfl rfl rfl Tryz.underlying31 rfl (by exact sz31) (fun w hM => ?_) a w hF hM))
  exact ⟨⟨A8, c8, gs, rs, A35, c35, A39, c39⟩, rfl, ⟨by rw [hp3, List.take_of_length_le (by omega)], hp4, hp5, hp6⟩, hM.keep (ks := [(0, 999)]) (by repeat (first | exact kl_rest (by assumption) rfl | (apply kl_in; focus rfl))) _ ⟨by rw [hft.end (by omega : e.fa.q ≤ i), List.append_nil]; rfl, rfl, rfl, rfl, trivial⟩⟩
end Go.Proofs.YtekbcbjimajnfaaGreatDoor
end
