/- Part 1, merged by a program. Words, names and ids: what the program and the reference say of them. No condition beyond lengths that a machine can hold. Frames: CheckFrame, checkFrames and what the reference has in their places. Conditions: lengths that a machine can hold. Events in plain lists: faults, tags, crumbs, and their faults' codes. No program in sight. Events are checked: the program's Check and the reference's EventFault. Conditions: those of each theorem. Events are compared, and what is asked of one: Same, Tag, Levels, and the reference's. Conditions: those of each theorem. Clones of faults, tags and crumbs; frames put together, and cut. Conditions: those of each theorem. Strings: one byte looked for, cut and split at it, suffixes; words in a list. Conditions: those of each theorem. Numbers and names of releases, and what is parsed of one release that is given. Conditions: those of each theorem. The digest of a string: Sum, FormatUint in base 16 and Repeat of a nought. Conditions: the table of trailing noughts holds Go's numbers. Numbers as texts: Itoa, plainNumber, whole; the table of powers of ten. Conditions: those of each theorem. Traces as texts, read: frames, heads, faults of the form Inner. Plain lists; no program in sight. Numbers of a base as texts: strconv.ParseInt at digits of base 10 and 16, stack.number; CutPrefix, CutSuffix. Conditions: those of each theorem. The line of a frame and the line of a fault walked: CutPrefix, CutSuffix, readCall, readPlace, readFrame, readHead. Conditions: those of each theorem. -/
import Derived.Test.YtgbldojgbpgjbaaGreatDoorZip
import Derived.Test.YtgbldojgbpgjbaaGreatDoorLem
import Derived.Test.YtgbldojgbpgjbaaGreatDoorShelf
import Derived.Shelf.Strings.SlTrimAscii
import Derived.Test.YtgbldojgbpgjbaaGreatDoorApp
import Derived.Test.YtgbldojgbpgjbaaGreatDoorOpsB
import Derived.Test.YtgbldojgbpgjbaaGreatDoorMany
import Derived.Test.YtgbldojgbpgjbaaGreatDoorByt
import Derived.Test.YtgbldojgbpgjbaaGreatDoorClr
import Derived.Test.YtgbldojgbpgjbaaGreatDoorIfc
import Derived.Test.YtgbldojgbpgjbaaGreatDoorArr
import Derived.Test.YtgbldojgbpgjbaaGreatDoorSit
import Derived.Lib.ItoaLen
import Derived.Test.YtgbldojgbpgjbaaGreatDoorInv
import Derived.Test.YtgbldojgbpgjbaaGreatDoorMid
import Derived.Test.YtgbldojgbpgjbaaGreatDoorHere
import Derived.Test.YtgbldojgbpgjbaaGreatDoorPost
import Derived.Test.YtgbldojgbpgjbaaGreatDoorLoud
import Derived.Test.YtgbldojgbpgjbaaGreatDoorUnb
section
namespace Go.Proofs.YtgbldojgbpgjbaaGreatDoor
set_option linter.unusedSimpArgs false
set_option linter.unusedVariables false
set_option maxRecDepth 20000
open Go.RowKit Go.Eng
theorem out_any (n lo hi : Int) (w : World) :
    Calls Tryz.prog 50 #[.int .i64 n, .int .i64 lo, .int .i64 hi] w fun e w' => e = .returned (.bool (decide (n < lo) || decide (hi < n))) ∧ Below w.heap.size w w' := by
  refine enter_args (args := [.int .i64 n, .int .i64 lo, .int .i64 hi]) (F := _) Tryz.func50 rfl Tryz.ntmps50 rfl rfl ?_
  intro Rb hRb hRn
  refine tx ?_
  refine sr 1 ?_
  refine sgx ?_
  refine sr 4 ?_
  refine sg rfl (y_move rfl rfl) ?_
  refine sg rfl (y_move rfl rfl) ?_
  refine sg rfl (y_bin rfl rfl rfl (fun _ => b_gtr)) ?_
  refine s1 (y_or rfl rfl rfl) ?_
  refine sr 1 ?_
  refine sgo ?_
  refine tr1 hRb fun w hM => ?_
  exact ⟨rfl, hM.below⟩
theorem IndexByte_any (s : List UInt8) (c : UInt8) (w : World) :
    Calls Tryz.prog 210 #[str s, .int .u8 (c.toNat : Int)] w fun e w' => e = .returned (.int .i64 (Lib.indexByte s c)) ∧ Below w.heap.size w w' := by
  refine (Tryz.strings_IndexByte ⟨s.toArray⟩ (c.toNat : Int) w).mono fun e w' ⟨h1, h2⟩ => ⟨?_, h2 ▸ Below.refl _ _⟩
  rw [h1]; simp
def hexs : List UInt8 := [48, 49, 50, 51, 52, 53, 54, 55, 56, 57, 97, 98, 99, 100, 101, 102]
theorem TrimHex_any (s : List UInt8) (hs : s.length ≤ 1000) (w : World) :
    Calls Tryz.prog 60 #[str s, str hexs] w fun e w' => e = .returned (str (Lib.trimS s hexs)) ∧ Below w.heap.size w w' :=
  Any.strings_Trim_laid Tryz.lays160 (by kernel_rfl) ⟨s.toArray⟩ ⟨hexs.toArray⟩ w (by rw [Lib.size_eq]; simp; omega) (by decide) (ascii_of_all (by decide))

/-- 16 digits of base 16 -/
def idOk (s : List UInt8) : Bool := decide ((s.length : Int) = 16) && decide (Lib.trimS s hexs = [])
theorem digits16_any (s : List UInt8) (w : World) :
    Calls Tryz.prog 122 #[str s] w fun e w' => e = .returned (.bool (idOk s)) ∧ Below w.heap.size w w' := by
  refine enter_args (args := [str s]) (F := _) Tryz.func122 rfl Tryz.ntmps122 rfl rfl ?_
  intro Rb hRb hRn
  refine tx ?_
  refine sr 1 ?_
  refine sgx ?_
  refine sr 1 ?_
  refine s1 (y_len_str rfl rfl Tryz.underlying9) ?_
  refine sr 2 ?_
  refine sg rfl (y_move rfl rfl) ?_
  refine sg rfl (y_call rfl rfl rfl cf60 (fun hg w _ => TrimHex_any s (by simp only [Bool.true_and, Bool.and_eq_true, beq_iff_eq, decide_eq_true_eq, decide_eq_false_iff_not, Int.not_lt, Int.not_le] at hg; omega) w)) ?_
  refine sg rfl (y_bin rfl rfl rfl (fun _ => b_eqls)) ?_
  refine s1 (y_and rfl rfl rfl) ?_
  refine sr 1 ?_
  refine sgo ?_
  refine tr1 hRb fun w hM => ?_
  exact ⟨rfl, hM.below⟩

/-- visible bytes alone, none of some others -/
def byteBad (wo : List UInt8) (c : UInt8) : Bool := decide ((c.toNat : Int) < 33) || decide ((126 : Int) < (c.toNat : Int)) || wo.contains c
def wordOk (wo s : List UInt8) : Bool := !(s.any (byteBad wo))
theorem wordOk_bad {wo : List UInt8} {c : UInt8} {r : List UInt8} (h : byteBad wo c = true) : wordOk wo (c :: r) = false := by simp [wordOk, h]
theorem wordOk_next {wo : List UInt8} {c : UInt8} {r : List UInt8} (h : byteBad wo c = false) : wordOk wo (c :: r) = wordOk wo r := by simp [wordOk, h]
theorem isWord_any (s wo : List UInt8) (hs : s.length ≤ 4611686018427387904) (w : World) :
    Calls Tryz.prog 148 #[str s, str wo] w fun e w' => e = .returned (.bool (wordOk wo s)) ∧ Below w.heap.size w w' := by
  refine enter_args (args := [str s, str wo]) (F := _) Tryz.func148 rfl Tryz.ntmps148 rfl rfl ?_
  intro Rb hRb hRn
  refine tx ?_
  refine sr 1 ?_
  refine sgs ?_
  refine tx ?_
  refine sr 1 ?_
  refine s1 (y_len_str rfl rfl Tryz.underlying9) ?_
  refine sr 1 ?_
  refine sgo ?_
  refine T_block ?_
  refine lK1 (kf := [(4, 5), (8, 29)]) (kl := [(4, 5), (8, 29)]) (fun (i : Nat) => [(8, true, .int .i64 (i : Int))]) (fun (i : Nat) => []) (fun (i : Nat) => i ≤ s.length ∧ wordOk wo s = wordOk wo (s.drop i)) (fun (i : Nat) => s.length - i) 0 ?_ ?_ ?_ ?_
  · exact ⟨by omega, rfl⟩
  · exact ⟨rfl, trivial⟩
  · exact trivial
  rintro i ⟨hp1, hp2⟩
  refine tx ?_
  refine sr 1 ?_
  refine sgs ?_
  refine T_cond rfl ?_ ?_ <;> intro h9
  · try simp only [nrm] at h9
    refine kgs ?_
    refine T_block ?_
    refine tx ?_
    refine sr 2 ?_
    refine sgx ?_
    refine sr 2 ?_
    refine s1 (y_index_str rfl rfl rfl Tryz.underlying9 (fun _ => by omega)) ?_
    refine sr 2 ?_
    refine sg rfl (y_move rfl rfl) ?_
    refine sg rfl (y_move rfl rfl) ?_
    refine sg rfl (y_index_str rfl rfl rfl Tryz.underlying9 (fun hg => by simp only [Bool.true_and, Bool.and_eq_true, beq_iff_eq, decide_eq_true_eq, decide_eq_false_iff_not, Int.not_lt, Int.not_le] at hg; omega)) ?_
    refine sg rfl (y_bin rfl rfl rfl (fun _ => b_gtr)) ?_
    refine s1 (y_or rfl rfl rfl) ?_
    refine sr 1 ?_
    refine sg rfl (y_move rfl rfl) ?_
    refine sg rfl (y_move rfl rfl) ?_
    refine sg rfl (y_move rfl rfl) ?_
    refine sg rfl (y_index_str rfl rfl rfl Tryz.underlying9 (fun hg => by simp only [Bool.true_and, Bool.and_eq_true, beq_iff_eq, decide_eq_true_eq, decide_eq_false_iff_not, Int.not_lt, Int.not_le] at hg; omega)) ?_
    refine sg rfl (y_call rfl rfl rfl cf210 (fun _ w _ => IndexByte_any _ _ w)) ?_
    refine sg rfl (y_as (v' := .bool (wo.contains (s.getD i 0))) (by rw [Lib.contains_iff_indexByte]) (y_bin rfl rfl rfl (fun _ => b_geq))) ?_
    refine s1 (y_as (v' := .bool (byteBad wo (s.getD i 0))) (by exact rfl) (y_or rfl rfl rfl)) ?_
    refine sgo ?_
    refine T_cond rfl ?_ ?_ <;> intro h28
    · skip
      refine tx ?_
      refine sr 1 ?_
      refine sgo ?_
      refine tr1 hRb fun w hM => ?_
      exact ⟨by rw [hp2, drop_str (by omega), wordOk_bad h28], hM.below⟩
    refine kgr ?_
    refine s1 (y_bin rfl rfl rfl (fun hg => b_add (by omega))) ?_
    refine sr 1 ?_
    refine S_nil (nK1 (kf := [(4, 5), (8, 29)]) (kl := [(4, 5), (8, 29)]) (i + 1) ?_ ?_ ?_ ?_)
    · omega
    · exact ⟨by omega, by rw [hp2, drop_str (by omega), wordOk_next h28]⟩
    · exact ⟨rfl, trivial⟩
    · exact trivial
  try simp only [nrm] at h9
  refine egx ?_
  refine sr 1 ?_
  refine sgo ?_
  refine tr1 hRb fun w hM => ?_
  exact ⟨by rw [hp2, List.drop_eq_nil_of_le (by omega)]; rfl, hM.below⟩
end Go.Proofs.YtgbldojgbpgjbaaGreatDoor
end
section
namespace Go.Proofs.YtgbldojgbpgjbaaGreatDoor
set_option linter.unusedSimpArgs false
set_option linter.unusedVariables false
set_option maxRecDepth 20000
open Go.RowKit Go.Eng
abbrev marks : List UInt8 := [40, 41, 58, 44]
/-- the fault of three words of a frame -/
def wordsNo (m f fi : List UInt8) : Int :=
  if (decide ((200 : Int) < (m.length : Int)) || decide ((200 : Int) < (f.length : Int)) || decide ((200 : Int) < (fi.length : Int))) = true then 4
  else if (!(wordOk marks m) || !(wordOk marks f) || !(wordOk marks fi)) = true then 9
  else if f = [] then 1 else 0
theorem if_t {α : Type} {c : Bool} {a b : α} (h : c = true) : (if c = true then a else b) = a := if_pos h
theorem if_f {α : Type} {c : Bool} {a b : α} (h : c = false) : (if c = true then a else b) = b := if_neg (by simp [h])
structure Frm where
  m : List UInt8
  f : List UInt8
  fi : List UInt8
  ln : Int
  ad : Int
  own : Bool
def Frm.enc (x : Frm) : List Value := [str x.m, str x.f, str x.fi, .int .i64 x.ln, .int .i64 x.ad, .bool x.own]
def Frm.val (x : Frm) : Value := .agg x.enc.toArray
/-- the fault of a frame -/
def frmNo (x : Frm) : Int :=
  if wordsNo x.m x.f x.fi ≠ 0 then wordsNo x.m x.f x.fi
  else if (decide (x.ln < 0) || decide (9999999 < x.ln) || (decide (x.ad < -1) || decide (281474976710655 < x.ad))) = true then 2
  else if x.ln ≠ 0 ∧ x.fi = [] then 1 else 0
theorem frmNo_words {x : Frm} {k : Int} (h : wordsNo x.m x.f x.fi = k) (hk : k ≠ 0) : frmNo x = k := by unfold frmNo; rw [h, if_pos hk]
theorem frmNo_rest {x : Frm} (h : wordsNo x.m x.f x.fi = 0) : frmNo x = if (decide (x.ln < 0) || decide (9999999 < x.ln) || (decide (x.ad < -1) || decide (281474976710655 < x.ad))) = true then 2
  else if x.ln ≠ 0 ∧ x.fi = [] then 1 else 0 := by unfold frmNo; rw [h, if_neg (by simp)]
theorem soutside_any (n lo hi : Int) (w : World) :
    Calls Tryz.prog 71 #[.int .i64 n, .int .i64 lo, .int .i64 hi] w fun e w' => e = .returned (.bool (decide (n < lo) || decide (hi < n))) ∧ Below w.heap.size w w' := by
  refine enter_args (args := [.int .i64 n, .int .i64 lo, .int .i64 hi]) (F := _) Tryz.func71 rfl Tryz.ntmps71 rfl rfl ?_
  intro Rb hRb hRn
  refine tx ?_
  refine sr 1 ?_
  refine sgx ?_
  refine sr 4 ?_
  refine sg rfl (y_move rfl rfl) ?_
  refine sg rfl (y_move rfl rfl) ?_
  refine sg rfl (y_bin rfl rfl rfl (fun _ => b_gtr)) ?_
  refine s1 (y_or rfl rfl rfl) ?_
  refine sr 1 ?_
  refine sgo ?_
  refine tr1 hRb fun w hM => ?_
  exact ⟨rfl, hM.below⟩
theorem CheckFrame_any (x : Frm) (hl1 : x.m.length ≤ 4611686018427387904) (hl2 : x.f.length ≤ 4611686018427387904) (hl3 : x.fi.length ≤ 4611686018427387904) (w : World) :
    Calls Tryz.prog 152 #[x.val] w fun e w' => e = .returned (.int .i64 (frmNo x)) ∧ Below w.heap.size w w' := by
  obtain ⟨m, f, fi, ln, ad, own⟩ := x
  simp only at hl1 hl2 hl3
  refine enter_args (args := [.agg #[str m, str f, str fi, .int .i64 ln, .int .i64 ad, .bool own]]) (F := _) Tryz.func152 rfl Tryz.ntmps152 rfl rfl ?_
  intro Rb hRb hRn
  refine tx ?_
  refine S_box 1 1 rfl rfl rfl rfl rfl ?_
  intro b1
  refine sr 1 ?_
  refine sgs ?_
  refine T_block ?_
  refine tx ?_
  refine s1 (yF fa45_0) ?_
  refine s1 (yL 1 Tryz.underlying9) ?_
  refine s1 (y_len_str rfl rfl Tryz.underlying9) ?_
  refine sr 2 ?_
  refine sg rfl (yF fa45_1) ?_
  refine sg rfl (yL 1 Tryz.underlying9) ?_
  refine sg rfl (y_len_str rfl rfl Tryz.underlying9) ?_
  refine sg rfl (y_bin rfl rfl rfl (fun _ => b_gtr)) ?_
  refine s1 (y_or rfl rfl rfl) ?_
  refine sr 1 ?_
  refine sg rfl (yF fa45_2) ?_
  refine sg rfl (yL 1 Tryz.underlying9) ?_
  refine sg rfl (y_len_str rfl rfl Tryz.underlying9) ?_
  refine sg rfl (y_bin rfl rfl rfl (fun _ => b_gtr)) ?_
  refine s1 (y_or rfl rfl rfl) ?_
  refine sr 1 ?_
  refine sgo ?_
  refine T_cond rfl ?_ ?_ <;> intro h3
  · skip
    refine tx ?_
    refine sr 1 ?_
    refine sgo ?_
    refine tr1 hRb fun w hM => ?_
    exact ⟨by rw [frmNo_words (x := ⟨m, f, fi, ln, ad, own⟩) (if_t h3) (by decide)], hM.below⟩
  refine tx ?_
  refine s1 (yF fa45_0) ?_
  refine s1 (yL 1 Tryz.underlying9) ?_
  refine s1 (y_call rfl rfl rfl cf148 (fun hg w _ => isWord_any _ _ (by first | omega | (have := hsz; omega)) w)) ?_
  refine sr 2 ?_
  refine sg rfl (yF fa45_1) ?_
  refine sg rfl (yL 1 Tryz.underlying9) ?_
  refine sg rfl (y_call rfl rfl rfl cf148 (fun hg w _ => isWord_any _ _ (by first | omega | (have := hsz; omega)) w)) ?_
  refine sg rfl (y_not rfl rfl) ?_
  refine s1 (y_or rfl rfl rfl) ?_
  refine sr 1 ?_
  refine sg rfl (yF fa45_2) ?_
  refine sg rfl (yL 1 Tryz.underlying9) ?_
  refine sg rfl (y_call rfl rfl rfl cf148 (fun hg w _ => isWord_any _ _ (by first | omega | (have := hsz; omega)) w)) ?_
  refine sg rfl (y_not rfl rfl) ?_
  refine s1 (y_or rfl rfl rfl) ?_
  refine sr 1 ?_
  refine sgo ?_
  refine T_cond rfl ?_ ?_ <;> intro h20
  · skip
    refine tx ?_
    refine sr 1 ?_
    refine sgo ?_
    refine tr1 hRb fun w hM => ?_
    exact ⟨by rw [frmNo_words (x := ⟨m, f, fi, ln, ad, own⟩) ((if_f h3).trans (if_t h20)) (by decide)], hM.below⟩
  refine tx ?_
  refine s1 (yF fa45_1) ?_
  refine s1 (yL 1 Tryz.underlying9) ?_
  refine s1 (y_bin rfl rfl rfl (fun _ => b_eqls)) ?_
  refine sr 1 ?_
  refine sgo ?_
  refine T_cond rfl ?_ ?_ <;> intro h37
  · skip
    refine tx ?_
    refine sr 1 ?_
    refine sgo ?_
    refine tr1 hRb fun w hM => ?_
    exact ⟨by rw [frmNo_words (x := ⟨m, f, fi, ln, ad, own⟩) ((if_f h3).trans ((if_f h20).trans (if_pos (by simpa using h37)))) (by decide)], hM.below⟩
  refine tx ?_
  refine s1 (yF fa45_3) ?_
  refine s1 (yL 1 Tryz.underlying3) ?_
  refine s1 (y_call rfl rfl rfl cf71 (fun _ w _ => soutside_any _ _ _ w)) ?_
  refine sr 1 ?_
  refine sg rfl (yF fa45_4) ?_
  refine sg rfl (yL 1 Tryz.underlying3) ?_
  refine sg rfl (y_call rfl rfl rfl cf71 (fun _ w _ => soutside_any _ _ _ w)) ?_
  refine s1 (y_or rfl rfl rfl) ?_
  refine sr 1 ?_
  refine sgo ?_
  refine T_cond rfl ?_ ?_ <;> intro h41
  · skip
    refine tx ?_
    refine sr 1 ?_
    refine sgo ?_
    refine tr1 hRb fun w hM => ?_
    exact ⟨by rw [frmNo_rest (x := ⟨m, f, fi, ln, ad, own⟩) ((if_f h3).trans ((if_f h20).trans (if_neg (by simpa using h37)))), if_t h41], hM.below⟩
  refine tx ?_
  refine s1 (yF fa45_3) ?_
  refine s1 (yL 1 Tryz.underlying3) ?_
  refine sr 2 ?_
  refine sg rfl (yF fa45_2) ?_
  refine sg rfl (yL 1 Tryz.underlying9) ?_
  refine sg rfl (y_bin rfl rfl rfl (fun _ => b_eqls)) ?_
  refine s1 (y_and rfl rfl rfl) ?_
  refine sr 1 ?_
  refine sgo ?_
  refine T_cond rfl ?_ ?_ <;> intro h50
  · skip
    refine tx ?_
    refine sr 1 ?_
    refine sgo ?_
    refine tr1 hRb fun w hM => ?_
    exact ⟨by rw [frmNo_rest (x := ⟨m, f, fi, ln, ad, own⟩) ((if_f h3).trans ((if_f h20).trans (if_neg (by simpa using h37)))), if_f h41, if_pos (by simpa using h50)], hM.below⟩
  refine kgx ?_
  refine sr 1 ?_
  refine sgo ?_
  refine tr1 hRb fun w hM => ?_
  exact ⟨by rw [frmNo_rest (x := ⟨m, f, fi, ln, ad, own⟩) ((if_f h3).trans ((if_f h20).trans (if_neg (by simpa using h37)))), if_f h41, if_neg (by simpa using h50)], hM.below⟩

/-! ### The reference's -/
def bigW (s : List UInt8) : Bool := decide ((200 : Int) < (s.length : Int))
def badW (s : List UInt8) : Bool := !(wordOk marks s)
theorem wordsNo_any (m f fi : List UInt8) : wordsNo m f fi = if [m, f, fi].any bigW = true then 4 else if [m, f, fi].any badW = true then 9 else if f = [] then 1 else 0 := by
  simp only [wordsNo, List.any_cons, List.any_nil, Bool.or_false, bigW, badW, Bool.or_assoc]
theorem three {i : Nat} (m f fi : List UInt8) (h : i < 3) : [str m, str f, str fi][i]? = some (str ([m, f, fi].getD i [])) := by
  match i, h with
  | 0, _ => rfl
  | 1, _ => rfl
  | 2, _ => rfl
theorem three_drop {i : Nat} (m f fi : List UInt8) (h : i < 3) : [m, f, fi].drop i = [m, f, fi].getD i [] :: [m, f, fi].drop (i + 1) := by
  match i, h with
  | 0, _ => rfl
  | 1, _ => rfl
  | 2, _ => rfl
theorem three_len {k : Nat} {m f fi : List UInt8} (i : Nat) (h1 : m.length ≤ k) (h2 : f.length ≤ k) (h3 : fi.length ≤ k) : ([m, f, fi].getD i []).length ≤ k := by
  match i with
  | 0 => exact h1
  | 1 => exact h2
  | 2 => exact h3
  | _ + 3 => exact Nat.zero_le _
theorem any_t {α : Type} {p : α → Bool} {a : α} {r : List α} (h : p a = true) : (a :: r).any p = true := by simp [h]
theorem any_f {α : Type} {p : α → Bool} {a : α} {r : List α} (h : p a = false) : (a :: r).any p = r.any p := by simp [h]
theorem badW_t {s : List UInt8} (h : wordOk marks s = false) : badW s = true := by simp [badW, h]
theorem badW_f {s : List UInt8} (h : wordOk marks s = true) : badW s = false := by simp [badW, h]
theorem frameFault_any (m f fi : List UInt8) (hl1 : m.length ≤ 4611686018427387904) (hl2 : f.length ≤ 4611686018427387904) (hl3 : fi.length ≤ 4611686018427387904) (w : World) :
    Calls Tryz.prog 194 #[str m, str f, str fi] w fun e w' => e = .returned (.int .i64 (wordsNo m f fi)) ∧ Below w.heap.size w w' := by
  rw [wordsNo_any]
  refine enter_args (args := [str m, str f, str fi]) (F := _) Tryz.func194 rfl Tryz.ntmps194 rfl rfl ?_
  intro Rb hRb hRn
  refine tx ?_
  refine sr 1 ?_
  refine sgs ?_
  refine tx ?_
  refine sr 3 ?_
  refine S_buildSlice 15 15 rfl rfl rfl rfl rfl Tryz.underlying53 inf9 rfl (by decide) (by decide) rfl rfl (by decide) rfl (_) rfl ?_
  intro b15
  refine s1 (y_len_slice rfl rfl Tryz.underlying53) ?_
  refine sr 1 ?_
  refine sgo ?_
  refine T_block ?_
  refine lK1 (kf := [(6, 6), (8, 8), (17, 24)]) (kl := [(6, 6), (8, 8), (17, 24)]) (fun (i : Nat) => [(17, true, .int .i64 (i : Int))]) (fun (i : Nat) => []) (fun (i : Nat) => i ≤ 3 ∧ [m, f, fi].any bigW = ([m, f, fi].drop i).any bigW) (fun (i : Nat) => 3 - i) 0 ?_ ?_ ?_ ?_
  · exact ⟨by omega, rfl⟩
  · exact ⟨rfl, trivial⟩
  · exact trivial
  rintro i ⟨hp1, hp2⟩
  refine tx ?_
  refine sr 1 ?_
  refine sgs ?_
  refine T_cond rfl ?_ ?_ <;> intro h18
  · try simp only [nrm] at h18
    refine kgs ?_
    refine T_block ?_
    refine tx ?_
    refine s1 (y_indexOwn 15 rfl rfl rfl rfl Tryz.underlying53 sz9 (fun _ => by omega)) ?_
    refine s1 (y_load_own 15 rfl rfl rfl (fun _ => by omega) (fun _ => three m f fi (by omega)) Tryz.underlying9 rfl) ?_
    refine sr 1 ?_
    refine sgx ?_
    refine sr 1 ?_
    refine s1 (y_len_str rfl rfl Tryz.underlying9) ?_
    refine s1 (y_as (v' := .bool (bigW ([m, f, fi].getD i []))) (by exact rfl) (y_bin rfl rfl rfl (fun _ => b_gtr))) ?_
    refine sgo ?_
    refine T_cond rfl ?_ ?_ <;> intro h23
    · skip
      refine tx ?_
      refine sr 1 ?_
      refine sgo ?_
      refine tr1 hRb fun w hM => ?_
      exact ⟨by rw [if_t (by rw [hp2, three_drop _ _ _ (by omega), any_t h23])], hM.below⟩
    refine kgr ?_
    refine s1 (y_bin rfl rfl rfl (fun hg => b_add (by omega))) ?_
    refine sr 1 ?_
    refine S_nil (nK1 (kf := [(6, 6), (8, 8), (17, 24)]) (kl := [(6, 6), (8, 8), (17, 24)]) (i + 1) ?_ ?_ ?_ ?_)
    · omega
    · exact ⟨by omega, by rw [hp2, three_drop _ _ _ (by omega), any_f h23]⟩
    · exact ⟨rfl, trivial⟩
    · exact trivial
  try simp only [nrm] at h18
  refine egs ?_
  refine tx ?_
  refine sr 3 ?_
  refine S_buildSlice 28 28 rfl rfl rfl rfl rfl Tryz.underlying53 inf9 rfl (by decide) (by decide) rfl rfl (by decide) rfl (_) rfl ?_
  intro b28
  refine s1 (y_len_slice rfl rfl Tryz.underlying53) ?_
  refine sr 1 ?_
  refine sgo ?_
  refine T_block ?_
  refine lK1 (kf := [(6, 6), (10, 11), (30, 57)]) (kl := [(6, 6), (10, 11), (30, 57)]) (fun (i : Nat) => [(30, true, .int .i64 (i : Int))]) (fun (i : Nat) => []) (fun (i : Nat) => i ≤ 3 ∧ [m, f, fi].any badW = ([m, f, fi].drop i).any badW) (fun (i : Nat) => 3 - i) 0 ?_ ?_ ?_ ?_
  · exact ⟨by omega, rfl⟩
  · exact ⟨rfl, trivial⟩
  · exact trivial
  rintro i ⟨hq1, hq2⟩
  refine tx ?_
  refine sr 1 ?_
  refine sgs ?_
  refine T_cond rfl ?_ ?_ <;> intro h31
  · try simp only [nrm] at h31
    refine kgs ?_
    refine T_block ?_
    refine tx ?_
    refine s1 (y_indexOwn 28 rfl rfl rfl rfl Tryz.underlying53 sz9 (fun _ => by omega)) ?_
    refine s1 (y_load_own 28 rfl rfl rfl (fun _ => by omega) (fun _ => three m f fi (by omega)) Tryz.underlying9 rfl) ?_
    refine sr 1 ?_
    refine sgx ?_
    refine sr 1 ?_
    refine s1 (y_len_str rfl rfl Tryz.underlying9) ?_
    refine sr 1 ?_
    refine sgo ?_
    refine T_block ?_
    refine lK1 (kf := [(6, 6), (11, 11), (36, 56)]) (kl := [(6, 6), (11, 11), (36, 56)]) (fun (k : Nat) => [(36, true, .int .i64 (k : Int))]) (fun (k : Nat) => []) (fun (k : Nat) => k ≤ ([m, f, fi].getD i []).length ∧ wordOk marks ([m, f, fi].getD i []) = wordOk marks (([m, f, fi].getD i []).drop k)) (fun (k : Nat) => ([m, f, fi].getD i []).length - k) 0 ?_ ?_ ?_ ?_
    · exact ⟨by omega, rfl⟩
    · exact ⟨rfl, trivial⟩
    · exact trivial
    rintro k ⟨hr1, hr2⟩
    have hl4 := three_len i hl1 hl2 hl3
    refine tx ?_
    refine sr 1 ?_
    refine sgs ?_
    refine T_cond rfl ?_ ?_ <;> intro h37
    · try simp only [nrm] at h37
      refine kgs ?_
      refine T_block ?_
      refine tx ?_
      refine sr 2 ?_
      refine sgx ?_
      refine sr 2 ?_
      refine s1 (y_index_str rfl rfl rfl Tryz.underlying9 (fun _ => by omega)) ?_
      refine sr 2 ?_
      refine sg rfl (y_move rfl rfl) ?_
      refine sg rfl (y_move rfl rfl) ?_
      refine sg rfl (y_index_str rfl rfl rfl Tryz.underlying9 (fun hg => by simp only [Bool.true_and, Bool.and_eq_true, beq_iff_eq, decide_eq_true_eq, decide_eq_false_iff_not, Int.not_lt, Int.not_le] at hg; omega)) ?_
      refine sg rfl (y_bin rfl rfl rfl (fun _ => b_gtr)) ?_
      refine s1 (y_or rfl rfl rfl) ?_
      refine sr 1 ?_
      refine sg rfl (y_move rfl rfl) ?_
      refine sg rfl (y_move rfl rfl) ?_
      refine sg rfl (y_index_str rfl rfl rfl Tryz.underlying9 (fun hg => by simp only [Bool.true_and, Bool.and_eq_true, beq_iff_eq, decide_eq_true_eq, decide_eq_false_iff_not, Int.not_lt, Int.not_le] at hg; omega)) ?_
      refine sg rfl (y_call rfl rfl rfl cf210 (fun _ w _ => IndexByte_any _ _ w)) ?_
      refine sg rfl (y_as (v' := .bool (marks.contains (([m, f, fi].getD i []).getD k 0))) (by rw [Lib.contains_iff_indexByte]) (y_bin rfl rfl rfl (fun _ => b_geq))) ?_
      refine s1 (y_as (v' := .bool (byteBad marks (([m, f, fi].getD i []).getD k 0))) (by exact rfl) (y_or rfl rfl rfl)) ?_
      refine sgo ?_
      refine T_cond rfl ?_ ?_ <;> intro h55
      · skip
        refine tx ?_
        refine sr 1 ?_
        refine sgo ?_
        refine tr1 hRb fun w hM => ?_
        exact ⟨by rw [if_f (by rw [hp2, List.drop_eq_nil_of_le (by simp; omega)]; rfl), if_t (by rw [hq2, three_drop _ _ _ (by omega), any_t (badW_t (by rw [hr2, drop_str (by omega), wordOk_bad h55]))])], hM.below⟩
      refine kgr ?_
      refine s1 (y_bin rfl rfl rfl (fun hg => b_add (by omega))) ?_
      refine sr 1 ?_
      refine S_nil (nK1 (kf := [(6, 6), (11, 11), (36, 56)]) (kl := [(6, 6), (11, 11), (36, 56)]) (k + 1) ?_ ?_ ?_ ?_)
      · omega
      · exact ⟨by omega, by rw [hr2, drop_str (by omega), wordOk_next h55]⟩
      · exact ⟨rfl, trivial⟩
      · exact trivial
    try simp only [nrm] at h37
    refine egr ?_
    refine s1 (y_bin rfl rfl rfl (fun hg => b_add (by omega))) ?_
    refine sr 1 ?_
    refine S_nil (nK1 (kf := [(6, 6), (10, 11), (30, 57)]) (kl := [(6, 6), (10, 11), (30, 57)]) (i + 1) ?_ ?_ ?_ ?_)
    · omega
    · exact ⟨by omega, by rw [hq2, three_drop _ _ _ (by omega), any_f (badW_f (by rw [hr2, List.drop_eq_nil_of_le (by omega)]; rfl))]⟩
    · exact ⟨rfl, trivial⟩
    · exact trivial
  try simp only [nrm] at h31
  refine egs ?_
  refine tx ?_
  refine sr 1 ?_
  refine s1 (y_bin rfl rfl rfl (fun _ => b_eqls)) ?_
  refine sgo ?_
  refine T_cond rfl ?_ ?_ <;> intro h59
  · try simp only [nrm] at h59
    refine tx ?_
    refine sr 1 ?_
    refine sgo ?_
    refine tr1 hRb fun w hM => ?_
    exact ⟨by rw [if_f (by rw [hp2, List.drop_eq_nil_of_le (by simp; omega)]; rfl), if_f (by rw [hq2, List.drop_eq_nil_of_le (by simp; omega)]; rfl), if_pos h59], hM.below⟩
  try simp only [nrm] at h59
  refine kgx ?_
  refine sr 1 ?_
  refine sgo ?_
  refine tr1 hRb fun w hM => ?_
  exact ⟨by rw [if_f (by rw [hp2, List.drop_eq_nil_of_le (by simp; omega)]; rfl), if_f (by rw [hq2, List.drop_eq_nil_of_le (by simp; omega)]; rfl), if_neg h59], hM.below⟩

theorem mem_at {α : Type} {l : List α} {i : Nat} {x : α} (h : l[i]? = some x) : x ∈ l := List.mem_of_getElem? h
structure FrmsOk (w : World) (l : Sl Frm) : Prop where
  ok : l.Ok Frm.enc 6 w
  q : l.q ≤ 4611686018427387904
  n : ∀ f ∈ l.l, f.m.length ≤ 4611686018427387904 ∧ f.f.length ≤ 4611686018427387904 ∧ f.fi.length ≤ 4611686018427387904
theorem FrmsOk.below {w w' : World} {l : Sl Frm} (h : FrmsOk w l) (hb : Below w.heap.size w w') : FrmsOk w' l := ⟨h.ok.below hb, h.q, h.n⟩
def frmsNo : List Frm → Int
  | [] => 0
  | f :: r => if frmNo f ≠ 0 then frmNo f else frmsNo r
def framesNo (l : Sl Frm) : Int := if (200 : Int) < l.q then 4 else frmsNo l.l
theorem checkFrames_any (l : Sl Frm) (w : World) (hl : FrmsOk w l) :
    Calls Tryz.prog 149 #[.slice l.A l.q l.c] w fun e w' => e = .returned (.int .i64 (framesNo l)) ∧ Below w.heap.size w w' := by
  have ht := hl.ok.t
  have hq := hl.q
  refine enter_args (args := [.slice l.A l.q l.c]) (F := _) Tryz.func149 rfl Tryz.ntmps149 rfl rfl ?_
  intro Rb hRb hRn
  refine tx ?_
  refine sr 1 ?_
  refine sgs ?_
  refine tx ?_
  refine sr 1 ?_
  refine s1 (y_len_slice rfl rfl Tryz.underlying32) ?_
  refine sr 1 ?_
  refine sgo ?_
  refine T_cond rfl ?_ ?_ <;> intro h8
  · try simp only [nrm] at h8
    refine tx ?_
    refine sr 1 ?_
    refine sgo ?_
    refine tr1 hRb fun w hM => ?_
    exact ⟨by rw [framesNo, if_pos (by omega)], hM.below⟩
  try simp only [nrm] at h8
  refine kgs ?_
  refine tx ?_
  refine sr 1 ?_
  refine s1 (y_len_slice rfl rfl Tryz.underlying32) ?_
  refine sr 1 ?_
  refine sgo ?_
  refine T_block ?_
  refine lK1 (kf := [(2, 2), (4, 5), (11, 20)]) (kl := [(2, 2), (4, 5), (11, 20)]) (fun (i : Nat) => [(11, true, .int .i64 (i : Int))]) (fun (i : Nat) => []) (fun (i : Nat) => i ≤ l.q ∧ frmsNo l.l = frmsNo (l.l.drop i)) (fun (i : Nat) => l.q - i) 0 ?_ ?_ ?_ ?_
  · exact ⟨by omega, rfl⟩
  · exact ⟨rfl, trivial⟩
  · exact trivial
  rintro i ⟨hp1, hp2⟩
  refine tx ?_
  refine sr 1 ?_
  refine sgs ?_
  refine T_cond rfl ?_ ?_ <;> intro h12
  · try simp only [nrm] at h12
    obtain ⟨x, hx1, hx2⟩ := ht.at (i := i) (by omega)
    have hn := hl.n x (mem_at hx1)
    refine kgs ?_
    refine T_block ?_
    refine tx ?_
    refine s1 (y_indexAddr rfl rfl rfl Tryz.underlying32 sz45 (fun hg => ht.isSome (by omega)) (fun _ => by omega)) ?_
    refine s1 (y_loadT rfl rfl ht (fun _ => rfl) (fun _ => hx1) Tryz.underlying45 rfl sz45) ?_
    refine S_alloc 4 4 rfl rfl rfl rfl z45 ?_
    intro b4
    refine S_store 4 rfl rfl rfl rfl rfl rfl sz45 rfl rfl ?_
    refine sgx ?_
    refine s1 (yA 4 rfl Tryz.underlying45 sz45) ?_
    refine s1 (y_call rfl rfl rfl cf152 (fun _ w _ => CheckFrame_any x hn.1 hn.2.1 hn.2.2 w)) ?_
    refine sr 1 ?_
    refine sgx ?_
    refine sr 2 ?_
    refine sgo ?_
    refine T_cond rfl ?_ ?_ <;> intro h18
    · try simp only [nrm] at h18
      refine tx ?_
      refine sr 2 ?_
      refine sgo ?_
      refine tr1 hRb fun w hM => ?_
      exact ⟨by rw [framesNo, if_neg (by omega), hp2, hx2, frmsNo, if_pos h18], hM.below⟩
    try simp only [nrm] at h18
    refine kgr ?_
    refine s1 (y_bin rfl rfl rfl (fun hg => b_add (by omega))) ?_
    refine sr 1 ?_
    refine S_nil (nK1 (kf := [(2, 2), (4, 5), (11, 20)]) (kl := [(2, 2), (4, 5), (11, 20)]) (i + 1) ?_ ?_ ?_ ?_)
    · omega
    · exact ⟨by omega, by rw [hp2, hx2, frmsNo, if_neg (by simpa using h18)]⟩
    · exact ⟨rfl, trivial⟩
    · exact trivial
  try simp only [nrm] at h12
  refine egx ?_
  refine sr 1 ?_
  refine sgo ?_
  refine tr1 hRb fun w hM => ?_
  exact ⟨by rw [framesNo, if_neg (by omega), hp2, ht.end (by omega)]; rfl, hM.below⟩
theorem FramesFault_any (l : Sl Frm) (w : World) (hl : FrmsOk w l) :
    Calls Tryz.prog 123 #[.slice l.A l.q l.c] w fun e w' => e = .returned (.int .i64 (framesNo l)) ∧ Below w.heap.size w w' := by
  have ht := hl.ok.t
  have hq := hl.q
  refine enter_args (args := [.slice l.A l.q l.c]) (F := _) Tryz.func123 rfl Tryz.ntmps123 rfl rfl ?_
  intro Rb hRb hRn
  refine tx ?_
  refine sr 1 ?_
  refine sgs ?_
  refine tx ?_
  refine sr 1 ?_
  refine s1 (y_len_slice rfl rfl Tryz.underlying32) ?_
  refine sr 1 ?_
  refine sgo ?_
  refine T_cond rfl ?_ ?_ <;> intro h8
  · try simp only [nrm] at h8
    refine tx ?_
    refine sr 1 ?_
    refine sgo ?_
    refine tr1 hRb fun w hM => ?_
    exact ⟨by rw [framesNo, if_pos (by omega)], hM.below⟩
  try simp only [nrm] at h8
  refine kgs ?_
  refine tx ?_
  refine sr 1 ?_
  refine s1 (y_len_slice rfl rfl Tryz.underlying32) ?_
  refine sr 1 ?_
  refine sgo ?_
  refine T_block ?_
  refine lK1 (kf := [(2, 2), (4, 5), (11, 41)]) (kl := [(2, 2), (4, 5), (11, 41)]) (fun (i : Nat) => [(11, true, .int .i64 (i : Int))]) (fun (i : Nat) => []) (fun (i : Nat) => i ≤ l.q ∧ frmsNo l.l = frmsNo (l.l.drop i)) (fun (i : Nat) => l.q - i) 0 ?_ ?_ ?_ ?_
  · exact ⟨by omega, rfl⟩
  · exact ⟨rfl, trivial⟩
  · exact trivial
  rintro i ⟨hp1, hp2⟩
  refine tx ?_
  refine sr 1 ?_
  refine sgs ?_
  refine T_cond rfl ?_ ?_ <;> intro h12
  · try simp only [nrm] at h12
    obtain ⟨x, hx1, hx2⟩ := ht.at (i := i) (by omega)
    have hn := hl.n x (mem_at hx1)
    refine kgs ?_
    refine T_block ?_
    refine tx ?_
    refine s1 (y_indexAddr rfl rfl rfl Tryz.underlying32 sz45 (fun hg => ht.isSome (by omega)) (fun _ => by omega)) ?_
    refine s1 (y_loadT rfl rfl ht (fun _ => rfl) (fun _ => hx1) Tryz.underlying45 rfl sz45) ?_
    refine S_alloc 4 4 rfl rfl rfl rfl z45 ?_
    intro b4
    refine S_store 4 rfl rfl rfl rfl rfl rfl sz45 rfl rfl ?_
    refine sgs ?_
    refine tx ?_
    refine s1 (yF fa45_0) ?_
    refine s1 (yL 4 Tryz.underlying9) ?_
    refine s1 (yF fa45_1) ?_
    refine s1 (yL 4 Tryz.underlying9) ?_
    refine s1 (yF fa45_2) ?_
    refine s1 (yL 4 Tryz.underlying9) ?_
    refine s1 (y_call rfl rfl rfl cf194 (fun _ w _ => frameFault_any _ _ _ hn.1 hn.2.1 hn.2.2 w)) ?_
    refine sr 1 ?_
    refine sgx ?_
    refine sr 2 ?_
    refine sgo ?_
    refine T_cond rfl ?_ ?_ <;> intro h23
    · try simp only [nrm] at h23
      have hf : frmNo x = wordsNo x.m x.f x.fi := frmNo_words rfl h23
      refine tx ?_
      refine sr 2 ?_
      refine sgo ?_
      refine tr1 hRb fun w hM => ?_
      exact ⟨by rw [framesNo, if_neg (by omega), hp2, hx2, frmsNo, hf, if_pos h23], hM.below⟩
    try simp only [nrm] at h23
    have hf := frmNo_rest h23
    refine kgs ?_
    refine tx ?_
    refine s1 (yF fa45_3) ?_
    refine s1 (yL 4 Tryz.underlying3) ?_
    refine s1 (y_call rfl rfl rfl cf50 (fun _ w _ => out_any _ _ _ w)) ?_
    refine sr 1 ?_
    refine sg rfl (yF fa45_4) ?_
    refine sg rfl (yL 4 Tryz.underlying3) ?_
    refine sg rfl (y_call rfl rfl rfl cf50 (fun _ w _ => out_any _ _ _ w)) ?_
    refine s1 (y_or rfl rfl rfl) ?_
    refine sgo ?_
    refine T_cond rfl ?_ ?_ <;> intro h32
    · skip
      rw [if_t h32] at hf
      refine tx ?_
      refine sr 1 ?_
      refine sgo ?_
      refine tr1 hRb fun w hM => ?_
      exact ⟨by rw [framesNo, if_neg (by omega), hp2, hx2, frmsNo, hf, if_pos (by decide)], hM.below⟩
    rw [if_f h32] at hf
    refine kgx ?_
    refine s1 (yF fa45_3) ?_
    refine s1 (yL 4 Tryz.underlying3) ?_
    refine sr 2 ?_
    refine sg rfl (yF fa45_2) ?_
    refine sg rfl (yL 4 Tryz.underlying9) ?_
    refine sg rfl (y_bin rfl rfl rfl (fun _ => b_eqls)) ?_
    refine s1 (y_and rfl rfl rfl) ?_
    refine sgo ?_
    refine T_cond rfl ?_ ?_ <;> intro h40
    · skip
      have hc : x.ln ≠ 0 ∧ x.fi = [] := by simpa using h40
      rw [if_pos hc] at hf
      refine tx ?_
      refine sr 1 ?_
      refine sgo ?_
      refine tr1 hRb fun w hM => ?_
      exact ⟨by rw [framesNo, if_neg (by omega), hp2, hx2, frmsNo, hf, if_pos (by decide)], hM.below⟩
    have hc : ¬ (x.ln ≠ 0 ∧ x.fi = []) := by simpa using h40
    rw [if_neg hc] at hf
    refine kgr ?_
    refine s1 (y_bin rfl rfl rfl (fun hg => b_add (by omega))) ?_
    refine sr 1 ?_
    refine S_nil (nK1 (kf := [(2, 2), (4, 5), (11, 41)]) (kl := [(2, 2), (4, 5), (11, 41)]) (i + 1) ?_ ?_ ?_ ?_)
    · omega
    · exact ⟨by omega, by rw [hp2, hx2, frmsNo, if_neg (by rw [hf]; simp)]⟩
    · exact ⟨rfl, trivial⟩
    · exact trivial
  try simp only [nrm] at h12
  refine egx ?_
  refine sr 1 ?_
  refine sgo ?_
  refine tr1 hRb fun w hM => ?_
  exact ⟨by rw [framesNo, if_neg (by omega), hp2, ht.end (by omega)]; rfl, hM.below⟩
end Go.Proofs.YtgbldojgbpgjbaaGreatDoor
end
section
namespace Go.Proofs.YtgbldojgbpgjbaaGreatDoor
set_option linter.unusedSimpArgs false
set_option linter.unusedVariables false
set_option maxRecDepth 20000
open Go.RowKit Go.Eng
/-- a name: 1 to 40 bytes, the first one a small letter -/
def nameBs : List UInt8 := [97, 98, 99, 100, 101, 102, 103, 104, 105, 106, 107, 108, 109, 110, 111, 112, 113, 114, 115, 116, 117, 118, 119, 120, 121, 122, 48, 49, 50, 51, 52, 53, 54, 55, 56, 57, 45, 46, 95]
def nameOk (s : List UInt8) : Bool := !decide (s = []) && decide ((s.length : Int) ≤ 40) && decide ((97 : Int) ≤ ((s.getD 0 0).toNat : Int)) && decide (((s.getD 0 0).toNat : Int) ≤ 122) && decide (Lib.trimS s nameBs = [])
def valBad (c : UInt8) : Bool := decide ((c.toNat : Int) < 32) || decide ((126 : Int) < (c.toNat : Int))
def sayBad (c : UInt8) : Bool := decide ((c.toNat : Int) < 32) || decide ((c.toNat : Int) = 127)
def valNo (s : List UInt8) : Int := if (200 : Int) < s.length then 4 else if s.any valBad = true then 9 else 0
def sayNo (s : List UInt8) : Int := if (2000 : Int) < s.length then 4 else if s.any sayBad = true then 9 else 0
structure Flt where
  k : List UInt8
  t : List UInt8
  fr : Sl Frm
def Flt.enc (f : Flt) : List Value := [str f.k, str f.t, .slice f.fr.A f.fr.q f.fr.c]
def Flt.val (f : Flt) : Value := .agg f.enc.toArray
structure STag where
  n : List UInt8
  v : List UInt8
def STag.enc (t : STag) : List Value := [str t.n, str t.v]
structure SCrumb where
  at_ : Int
  k : List UInt8
  t : List UInt8
def SCrumb.enc (c : SCrumb) : List Value := [.int .i64 c.at_, str c.k, str c.t]
structure Evt where
  id : List UInt8
  at_ : Int
  lv : Int
  fa : Sl Flt
  ta : Sl STag
  cr : Sl SCrumb
  rel : List UInt8
  us : List UInt8
  wt : Int
def Evt.enc (e : Evt) : List Value := [str e.id, .int .i64 e.at_, .int .i64 e.lv, .slice e.fa.A e.fa.q e.fa.c, .slice e.ta.A e.ta.q e.ta.c, .slice e.cr.A e.cr.q e.cr.c, str e.rel, str e.us, .int .i64 e.wt]
def Evt.val (e : Evt) : Value := .agg e.enc.toArray
structure FltOk (w : World) (f : Flt) : Prop where
  k : f.k.length ≤ 4611686018427387904
  t : f.t.length ≤ 4611686018427387904
  fr : FrmsOk w f.fr
structure FltsOk (w : World) (l : Sl Flt) : Prop where
  ok : l.Ok Flt.enc 3 w
  q : l.q ≤ 4611686018427387904
  n : ∀ f ∈ l.l, FltOk w f
structure TagsOk (w : World) (l : Sl STag) : Prop where
  ok : l.Ok STag.enc 2 w
  q : l.q ≤ 4611686018427387904
  n : ∀ t ∈ l.l, t.n.length ≤ 4611686018427387904 ∧ t.v.length ≤ 4611686018427387904
structure CrumbsOk (w : World) (l : Sl SCrumb) : Prop where
  ok : l.Ok SCrumb.enc 3 w
  q : l.q ≤ 4611686018427387904
  n : ∀ c ∈ l.l, c.k.length ≤ 4611686018427387904 ∧ c.t.length ≤ 4611686018427387904
structure Evt.Ok (w : World) (e : Evt) : Prop where
  fa : FltsOk w e.fa
  ta : TagsOk w e.ta
  cr : CrumbsOk w e.cr
  id : e.id.length ≤ 4611686018427387904
  rel : e.rel.length ≤ 4611686018427387904
  us : e.us.length ≤ 4611686018427387904
section
variable {w w' : World} (hb : Below w.heap.size w w')
include hb
theorem FltOk.below {f : Flt} (h : FltOk w f) : FltOk w' f := ⟨h.k, h.t, h.fr.below hb⟩
theorem FltsOk.below {l : Sl Flt} (h : FltsOk w l) : FltsOk w' l := ⟨h.ok.below hb, h.q, fun f hf => (h.n f hf).below hb⟩
theorem TagsOk.below {l : Sl STag} (h : TagsOk w l) : TagsOk w' l := ⟨h.ok.below hb, h.q, h.n⟩
theorem CrumbsOk.below {l : Sl SCrumb} (h : CrumbsOk w l) : CrumbsOk w' l := ⟨h.ok.below hb, h.q, h.n⟩
theorem Evt.Ok.below {e : Evt} (h : e.Ok w) : e.Ok w' := ⟨h.fa.below hb, h.ta.below hb, h.cr.below hb, h.id, h.rel, h.us⟩
end
/-! ### The codes of their faults -/
def fltNo (f : Flt) : Int :=
  if (200 : Int) < f.k.length then 4 else if wordOk [58] f.k = false then 9 else if f.k = [] then 1 else if sayNo f.t ≠ 0 then sayNo f.t else framesNo f.fr
def fltsNo : List Flt → Int
  | [] => 0
  | f :: r => if fltNo f ≠ 0 then fltNo f else fltsNo r
def faultsNo (l : Sl Flt) : Int := if l.q = 0 then 7 else if (10 : Int) < l.q then 4 else fltsNo l.l
def tagsNo : Option (List UInt8) → List STag → Int
  | _, [] => 0
  | p, t :: r => if nameOk t.n = false then 3 else if (p.any fun s => Op.bytesLess t.n s || decide (t.n = s)) = true then 5 else if valNo t.v ≠ 0 then valNo t.v else tagsNo (some t.n) r
def crumbsNo : Option Int → List SCrumb → Int
  | _, [] => 0
  | p, c :: r => if (decide (c.at_ < 0) || decide (3155759999 < c.at_)) = true then 2 else if (p.any fun n => decide (c.at_ < n)) = true then 5 else if nameOk c.k = false then 3 else if sayNo c.t ≠ 0 then sayNo c.t else crumbsNo (some c.at_) r
def headNo (id : List UInt8) (at_ lv : Int) : Int := if idOk id = false then 1 else if (decide (at_ < 0) || decide (3155759999 < at_) || (decide (lv < 1) || decide (5 < lv))) = true then 2 else 0
def fst (a b : Int) : Int := if a ≠ 0 then a else b
def evNo (e : Evt) : Int := fst (headNo e.id e.at_ e.lv) (fst (faultsNo e.fa) (fst (if (40 : Int) < e.ta.q then 4 else tagsNo none e.ta.l) (fst (if (50 : Int) < e.cr.q then 4 else crumbsNo none e.cr.l)
  (if (!decide (e.rel = []) && !nameOk e.rel) = true then 3 else fst (valNo e.us) (if (decide (e.wt < 1) || decide (1000000 < e.wt)) = true then 2 else 0)))))
theorem fst_t {a b : Int} (h : ¬ a = 0) : fst a b = a := if_pos h
theorem fst_f {a b : Int} (h : a = 0) : fst a b = b := if_neg (by simp [h])
theorem name_t {s : List UInt8} (h : (decide ((s.length : Int) < 1) || decide ((40 : Int) < (s.length : Int)) || decide (((s.getD 0 0).toNat : Int) < 97) || decide ((122 : Int) < ((s.getD 0 0).toNat : Int))) = true) : nameOk s = false := by
  unfold nameOk
  cases s with
  | nil => rfl
  | cons a r =>
    simp only [Bool.or_eq_true, decide_eq_true_eq, List.length_cons] at h
    rw [Bool.eq_false_iff]
    simp only [ne_eq, Bool.and_eq_true, decide_eq_true_eq, List.length_cons]
    omega
theorem name_f {s : List UInt8} (h : (decide ((s.length : Int) < 1) || decide ((40 : Int) < (s.length : Int)) || decide (((s.getD 0 0).toNat : Int) < 97) || decide ((122 : Int) < ((s.getD 0 0).toNat : Int))) = false) : s.length ≤ 40 ∧ decide (Lib.trimS s nameBs = []) = nameOk s := by
  cases s with
  | nil => simp at h
  | cons a r =>
    simp only [Bool.or_eq_false_iff, decide_eq_false_iff_not, List.length_cons] at h
    refine ⟨by simp only [List.length_cons]; omega, ?_⟩
    unfold nameOk
    rw [show (!decide (a :: r = [])) = true from by simp, show decide (((a :: r).length : Int) ≤ 40) = true from decide_eq_true (by simp only [List.length_cons]; omega), show decide ((97 : Int) ≤ (((a :: r).getD 0 0).toNat : Int)) = true from decide_eq_true (by omega),
      show decide ((((a :: r).getD 0 0).toNat : Int) ≤ 122) = true from decide_eq_true (by omega)]
    rfl
def prevN (i : Nat) (b : STag) : Option (List UInt8) := if i = 0 then none else some b.n
def prevA (i : Nat) (b : SCrumb) : Option Int := if i = 0 then none else some b.at_
theorem prevN_any (i : Nat) (b : STag) (f : List UInt8 → Bool) : (prevN i b).any f = (decide ((0 : Int) < (i : Int)) && f b.n) := by
  unfold prevN
  rcases Nat.eq_zero_or_pos i with h | h
  · simp [h]
  · rw [if_neg (by omega)]; simp [h]
theorem prevA_any (i : Nat) (b : SCrumb) (f : Int → Bool) : (prevA i b).any f = (decide ((0 : Int) < (i : Int)) && f b.at_) := by
  unfold prevA
  rcases Nat.eq_zero_or_pos i with h | h
  · simp [h]
  · rw [if_neg (by omega)]; simp [h]
theorem tagsNo_nil (p : Option (List UInt8)) : tagsNo p [] = 0 := by unfold tagsNo; rfl
theorem crumbsNo_nil (p : Option Int) : crumbsNo p [] = 0 := by unfold crumbsNo; rfl
theorem fltNo_say {f : Flt} {k : Int} (h1 : ¬ (200 : Int) < f.k.length) (h2 : wordOk [58] f.k = true) (h3 : ¬ f.k = []) (h : sayNo f.t = k) (hk : ¬ k = 0) : fltNo f = k := by
  rw [fltNo, if_neg h1, if_neg (by rw [h2]; simp), if_neg h3, h, if_pos hk]
theorem fltNo_frs {f : Flt} (h1 : ¬ (200 : Int) < f.k.length) (h2 : wordOk [58] f.k = true) (h3 : ¬ f.k = []) (h : sayNo f.t = 0) : fltNo f = framesNo f.fr := by
  rw [fltNo, if_neg h1, if_neg (by rw [h2]; simp), if_neg h3, h, if_neg (by simp)]
theorem one58 (c : UInt8) : (decide ((c.toNat : Int) < 33) || decide ((126 : Int) < (c.toNat : Int)) || decide ((c.toNat : Int) = 58)) = byteBad [58] c := by
  have e : [(58 : UInt8)].contains c = decide ((c.toNat : Int) = 58) := by
    rw [Bool.eq_iff_iff]
    simp only [List.contains_cons, List.contains_nil, Bool.or_false, beq_iff_eq, decide_eq_true_eq]
    constructor
    · rintro rfl; rfl
    · intro h; exact UInt8.toNat_inj.1 (show c.toNat = 58 from by omega)
  rw [byteBad, e]
theorem fst_a {a b c : Int} (h : a = c) (hc : c ≠ 0) : fst a b = c := by rw [fst, h, if_pos hc]
theorem fst_b {a b c : Int} (h : a = 0) (hb : b = c) : fst a b = c := by rw [fst, h, hb]; rfl
end Go.Proofs.YtgbldojgbpgjbaaGreatDoor
end
section
namespace Go.Proofs.YtgbldojgbpgjbaaGreatDoor
set_option linter.unusedSimpArgs false
set_option linter.unusedVariables false
set_option maxRecDepth 20000
open Go.RowKit Go.Eng
theorem TrimName_any (s : List UInt8) (hs : s.length ≤ 1000) (w : World) :
    Calls Tryz.prog 60 #[str s, str nameBs] w fun e w' => e = .returned (str (Lib.trimS s nameBs)) ∧ Below w.heap.size w w' :=
  Any.strings_Trim_laid Tryz.lays160 (by kernel_rfl) ⟨s.toArray⟩ ⟨nameBs.toArray⟩ w (by rw [Lib.size_eq]; simp; omega) (by decide) (ascii_of_all (by decide))
theorem isDigest_any (s : List UInt8) (w : World) :
    Calls Tryz.prog 61 #[str s] w fun e w' => e = .returned (.bool (idOk s)) ∧ Below w.heap.size w w' := by
  refine enter_args (args := [str s]) (F := _) Tryz.func61 rfl Tryz.ntmps61 rfl rfl ?_
  intro Rb hRb hRn
  refine tx ?_
  refine sr 1 ?_
  refine sgx ?_
  refine sr 1 ?_
  refine s1 (y_len_str rfl rfl Tryz.underlying9) ?_
  refine sr 2 ?_
  refine sg rfl (y_move rfl rfl) ?_
  refine sg rfl (y_call rfl rfl rfl cf60 (fun hg w _ => TrimHex_any s (by simp only [Bool.true_and, Bool.and_eq_true, beq_iff_eq, decide_eq_true_eq, decide_eq_false_iff_not, Int.not_lt, Int.not_le] at hg; omega) w)) ?_
  refine sg rfl (y_bin rfl rfl rfl (fun _ => b_eqls)) ?_
  refine s1 (y_and rfl rfl rfl) ?_
  refine sr 1 ?_
  refine sgo ?_
  refine tr1 hRb fun w hM => ?_
  exact ⟨rfl, hM.below⟩
theorem eoutside_any (n lo hi : Int) (w : World) :
    Calls Tryz.prog 26 #[.int .i64 n, .int .i64 lo, .int .i64 hi] w fun e w' => e = .returned (.bool (decide (n < lo) || decide (hi < n))) ∧ Below w.heap.size w w' := by
  refine enter_args (args := [.int .i64 n, .int .i64 lo, .int .i64 hi]) (F := _) Tryz.func26 rfl Tryz.ntmps26 rfl rfl ?_
  intro Rb hRb hRn
  refine tx ?_
  refine sr 1 ?_
  refine sgx ?_
  refine sr 4 ?_
  refine sg rfl (y_move rfl rfl) ?_
  refine sg rfl (y_move rfl rfl) ?_
  refine sg rfl (y_bin rfl rfl rfl (fun _ => b_gtr)) ?_
  refine s1 (y_or rfl rfl rfl) ?_
  refine sr 1 ?_
  refine sgo ?_
  refine tr1 hRb fun w hM => ?_
  exact ⟨rfl, hM.below⟩
theorem IsName_any (s : List UInt8) (w : World) :
    Calls Tryz.prog 24 #[str s] w fun e w' => e = .returned (.bool (nameOk s)) ∧ Below w.heap.size w w' := by
  refine enter_args (args := [str s]) (F := _) Tryz.func24 rfl Tryz.ntmps24 rfl rfl ?_
  intro Rb hRb hRn
  refine tx ?_
  refine sr 1 ?_
  refine sgs ?_
  refine tx ?_
  refine sr 1 ?_
  refine s1 (y_len_str rfl rfl Tryz.underlying9) ?_
  refine sr 2 ?_
  refine sg rfl (y_move rfl rfl) ?_
  refine sg rfl (y_len_str rfl rfl Tryz.underlying9) ?_
  refine sg rfl (y_bin rfl rfl rfl (fun _ => b_gtr)) ?_
  refine s1 (y_or rfl rfl rfl) ?_
  refine sr 1 ?_
  refine sg rfl (y_move rfl rfl) ?_
  refine sg rfl (y_index_str (j := 0) rfl rfl rfl Tryz.underlying9 (fun hg => List.length_pos_iff.2 (fun e => by subst e; simp at hg))) ?_
  refine sg rfl (y_bin rfl rfl rfl (fun _ => b_lss)) ?_
  refine s1 (y_or rfl rfl rfl) ?_
  refine sr 1 ?_
  refine sg rfl (y_move rfl rfl) ?_
  refine sg rfl (y_index_str (j := 0) rfl rfl rfl Tryz.underlying9 (fun hg => List.length_pos_iff.2 (fun e => by subst e; simp at hg))) ?_
  refine sg rfl (y_bin rfl rfl rfl (fun _ => b_gtr)) ?_
  refine s1 (y_or rfl rfl rfl) ?_
  refine sgo ?_
  refine T_cond rfl ?_ ?_ <;> intro h20
  · skip
    refine tx ?_
    refine sr 1 ?_
    refine sgo ?_
    refine tr1 hRb fun w hM => ?_
    exact ⟨by rw [name_t h20], hM.below⟩
  have hn := name_f h20
  have hl := hn.1
  refine kgx ?_
  refine sr 1 ?_
  refine s1 (y_call rfl rfl rfl cf60 (fun _ w _ => TrimName_any s (by omega) w)) ?_
  refine s1 (y_bin rfl rfl rfl (fun _ => b_eqls)) ?_
  refine sr 1 ?_
  refine sgo ?_
  refine tr1 hRb fun w hM => ?_
  exact ⟨by rw [← hn.2], hM.below⟩
theorem NameOk_any (s : List UInt8) (w : World) :
    Calls Tryz.prog 48 #[str s] w fun e w' => e = .returned (.bool (nameOk s)) ∧ Below w.heap.size w w' := by
  refine enter_args (args := [str s]) (F := _) Tryz.func48 rfl Tryz.ntmps48 rfl rfl ?_
  intro Rb hRb hRn
  refine tx ?_
  refine sr 1 ?_
  refine sgx ?_
  refine sr 1 ?_
  refine s1 (y_bin rfl rfl rfl (fun _ => b_neqs)) ?_
  refine sr 1 ?_
  refine sg rfl (y_move rfl rfl) ?_
  refine sg rfl (y_len_str rfl rfl Tryz.underlying9) ?_
  refine sg rfl (y_bin rfl rfl rfl (fun _ => b_leq)) ?_
  refine s1 (y_and rfl rfl rfl) ?_
  refine sr 1 ?_
  refine sg rfl (y_move rfl rfl) ?_
  refine sg rfl (y_index_str (j := 0) rfl rfl rfl Tryz.underlying9 (fun hg => List.length_pos_iff.2 (fun e => by subst e; simp at hg))) ?_
  refine sg rfl (y_bin rfl rfl rfl (fun _ => b_geq)) ?_
  refine s1 (y_and rfl rfl rfl) ?_
  refine sr 1 ?_
  refine sg rfl (y_move rfl rfl) ?_
  refine sg rfl (y_index_str (j := 0) rfl rfl rfl Tryz.underlying9 (fun hg => List.length_pos_iff.2 (fun e => by subst e; simp at hg))) ?_
  refine sg rfl (y_bin rfl rfl rfl (fun _ => b_leq)) ?_
  refine s1 (y_and rfl rfl rfl) ?_
  refine sr 1 ?_
  refine sg rfl (y_move rfl rfl) ?_
  refine sg rfl (y_call rfl rfl rfl cf60 (fun hg w _ => TrimName_any s (by simp only [Bool.true_and, Bool.and_eq_true, beq_iff_eq, decide_eq_true_eq, decide_eq_false_iff_not, Int.not_lt, Int.not_le] at hg; omega) w)) ?_
  refine sg rfl (y_bin rfl rfl rfl (fun _ => b_eqls)) ?_
  refine s1 (y_and rfl rfl rfl) ?_
  refine sr 1 ?_
  refine sgo ?_
  refine tr1 hRb fun w hM => ?_
  exact ⟨rfl, hM.below⟩
theorem checkValue_any (s : List UInt8) (hs : s.length ≤ 4611686018427387904) (w : World) :
    Calls Tryz.prog 25 #[str s] w fun e w' => e = .returned (.int .i64 (valNo s)) ∧ Below w.heap.size w w' := by
  refine enter_args (args := [str s]) (F := _) Tryz.func25 rfl Tryz.ntmps25 rfl rfl ?_
  intro Rb hRb hRn
  refine tx ?_
  refine sr 1 ?_
  refine sgs ?_
  refine tx ?_
  refine sr 1 ?_
  refine s1 (y_len_str rfl rfl Tryz.underlying9) ?_
  refine sr 1 ?_
  refine sgo ?_
  refine T_cond rfl ?_ ?_ <;> intro h6
  · try simp only [nrm] at h6
    refine tx ?_
    refine sr 1 ?_
    refine sgo ?_
    refine tr1 hRb fun w hM => ?_
    exact ⟨by rw [valNo, if_pos (by omega)], hM.below⟩
  try simp only [nrm] at h6
  refine kgs ?_
  refine tx ?_
  refine sr 1 ?_
  refine s1 (y_len_str rfl rfl Tryz.underlying9) ?_
  refine sr 1 ?_
  refine sgo ?_
  refine T_block ?_
  refine lK1 (kf := [(2, 3), (9, 22)]) (kl := [(2, 3), (9, 22)]) (fun (i : Nat) => [(9, true, .int .i64 (i : Int))]) (fun (i : Nat) => []) (fun (i : Nat) => i ≤ s.length ∧ s.any valBad = (s.drop i).any valBad) (fun (i : Nat) => s.length - i) 0 ?_ ?_ ?_ ?_
  · exact ⟨by omega, rfl⟩
  · exact ⟨rfl, trivial⟩
  · exact trivial
  rintro i ⟨hp1, hp2⟩
  refine tx ?_
  refine sr 1 ?_
  refine sgs ?_
  refine T_cond rfl ?_ ?_ <;> intro h10
  · try simp only [nrm] at h10
    refine kgs ?_
    refine T_block ?_
    refine tx ?_
    refine sr 2 ?_
    refine sgx ?_
    refine sr 2 ?_
    refine s1 (y_index_str rfl rfl rfl Tryz.underlying9 (fun _ => by omega)) ?_
    refine sr 2 ?_
    refine sg rfl (y_move rfl rfl) ?_
    refine sg rfl (y_move rfl rfl) ?_
    refine sg rfl (y_index_str rfl rfl rfl Tryz.underlying9 (fun hg => by simp only [Bool.true_and, Bool.and_eq_true, beq_iff_eq, decide_eq_true_eq, decide_eq_false_iff_not, Int.not_lt, Int.not_le] at hg; omega)) ?_
    refine sg rfl (y_bin rfl rfl rfl (fun _ => b_gtr)) ?_
    refine s1 (y_as (v' := .bool (valBad (s.getD i 0))) (by exact rfl) (y_or rfl rfl rfl)) ?_
    refine sgo ?_
    refine T_cond rfl ?_ ?_ <;> intro h21
    · skip
      refine tx ?_
      refine sr 1 ?_
      refine sgo ?_
      refine tr1 hRb fun w hM => ?_
      exact ⟨by rw [valNo, if_neg (by omega), if_pos (by rw [hp2, drop_str (by omega), any_t h21])], hM.below⟩
    refine kgr ?_
    refine s1 (y_bin rfl rfl rfl (fun hg => b_add (by omega))) ?_
    refine sr 1 ?_
    refine S_nil (nK1 (kf := [(2, 3), (9, 22)]) (kl := [(2, 3), (9, 22)]) (i + 1) ?_ ?_ ?_ ?_)
    · omega
    · exact ⟨by omega, by rw [hp2, drop_str (by omega), any_f h21]⟩
    · exact ⟨rfl, trivial⟩
    · exact trivial
  try simp only [nrm] at h10
  refine egx ?_
  refine sr 1 ?_
  refine sgo ?_
  refine tr1 hRb fun w hM => ?_
  exact ⟨by rw [valNo, if_neg (by omega), if_neg (by rw [hp2, List.drop_eq_nil_of_le (by omega)]; simp)], hM.below⟩
theorem wordFault_any (s : List UInt8) (hs : s.length ≤ 4611686018427387904) (w : World) :
    Calls Tryz.prog 49 #[str s] w fun e w' => e = .returned (.int .i64 (valNo s)) ∧ Below w.heap.size w w' := by
  refine enter_args (args := [str s]) (F := _) Tryz.func49 rfl Tryz.ntmps49 rfl rfl ?_
  intro Rb hRb hRn
  refine tx ?_
  refine sr 1 ?_
  refine sgs ?_
  refine tx ?_
  refine sr 1 ?_
  refine s1 (y_len_str rfl rfl Tryz.underlying9) ?_
  refine sr 1 ?_
  refine sgo ?_
  refine T_cond rfl ?_ ?_ <;> intro h6
  · try simp only [nrm] at h6
    refine tx ?_
    refine sr 1 ?_
    refine sgo ?_
    refine tr1 hRb fun w hM => ?_
    exact ⟨by rw [valNo, if_pos (by omega)], hM.below⟩
  try simp only [nrm] at h6
  refine kgs ?_
  refine tx ?_
  refine sr 1 ?_
  refine s1 (y_len_str rfl rfl Tryz.underlying9) ?_
  refine sr 1 ?_
  refine sgo ?_
  refine T_block ?_
  refine lK1 (kf := [(2, 3), (9, 22)]) (kl := [(2, 3), (9, 22)]) (fun (i : Nat) => [(9, true, .int .i64 (i : Int))]) (fun (i : Nat) => []) (fun (i : Nat) => i ≤ s.length ∧ s.any valBad = (s.drop i).any valBad) (fun (i : Nat) => s.length - i) 0 ?_ ?_ ?_ ?_
  · exact ⟨by omega, rfl⟩
  · exact ⟨rfl, trivial⟩
  · exact trivial
  rintro i ⟨hp1, hp2⟩
  refine tx ?_
  refine sr 1 ?_
  refine sgs ?_
  refine T_cond rfl ?_ ?_ <;> intro h10
  · try simp only [nrm] at h10
    refine kgs ?_
    refine T_block ?_
    refine tx ?_
    refine sr 2 ?_
    refine sgx ?_
    refine sr 2 ?_
    refine s1 (y_index_str rfl rfl rfl Tryz.underlying9 (fun _ => by omega)) ?_
    refine sr 2 ?_
    refine sg rfl (y_move rfl rfl) ?_
    refine sg rfl (y_move rfl rfl) ?_
    refine sg rfl (y_index_str rfl rfl rfl Tryz.underlying9 (fun hg => by simp only [Bool.true_and, Bool.and_eq_true, beq_iff_eq, decide_eq_true_eq, decide_eq_false_iff_not, Int.not_lt, Int.not_le] at hg; omega)) ?_
    refine sg rfl (y_bin rfl rfl rfl (fun _ => b_gtr)) ?_
    refine s1 (y_as (v' := .bool (valBad (s.getD i 0))) (by exact rfl) (y_or rfl rfl rfl)) ?_
    refine sgo ?_
    refine T_cond rfl ?_ ?_ <;> intro h21
    · skip
      refine tx ?_
      refine sr 1 ?_
      refine sgo ?_
      refine tr1 hRb fun w hM => ?_
      exact ⟨by rw [valNo, if_neg (by omega), if_pos (by rw [hp2, drop_str (by omega), any_t h21])], hM.below⟩
    refine kgr ?_
    refine s1 (y_bin rfl rfl rfl (fun hg => b_add (by omega))) ?_
    refine sr 1 ?_
    refine S_nil (nK1 (kf := [(2, 3), (9, 22)]) (kl := [(2, 3), (9, 22)]) (i + 1) ?_ ?_ ?_ ?_)
    · omega
    · exact ⟨by omega, by rw [hp2, drop_str (by omega), any_f h21]⟩
    · exact ⟨rfl, trivial⟩
    · exact trivial
  try simp only [nrm] at h10
  refine egx ?_
  refine sr 1 ?_
  refine sgo ?_
  refine tr1 hRb fun w hM => ?_
  exact ⟨by rw [valNo, if_neg (by omega), if_neg (by rw [hp2, List.drop_eq_nil_of_le (by omega)]; simp)], hM.below⟩
theorem checkSay_any (s : List UInt8) (hs : s.length ≤ 4611686018427387904) (w : World) :
    Calls Tryz.prog 63 #[str s] w fun e w' => e = .returned (.int .i64 (sayNo s)) ∧ Below w.heap.size w w' := by
  refine enter_args (args := [str s]) (F := _) Tryz.func63 rfl Tryz.ntmps63 rfl rfl ?_
  intro Rb hRb hRn
  refine tx ?_
  refine sr 1 ?_
  refine sgs ?_
  refine tx ?_
  refine sr 1 ?_
  refine s1 (y_len_str rfl rfl Tryz.underlying9) ?_
  refine sr 1 ?_
  refine sgo ?_
  refine T_cond rfl ?_ ?_ <;> intro h6
  · try simp only [nrm] at h6
    refine tx ?_
    refine sr 1 ?_
    refine sgo ?_
    refine tr1 hRb fun w hM => ?_
    exact ⟨by rw [sayNo, if_pos (by omega)], hM.below⟩
  try simp only [nrm] at h6
  refine kgs ?_
  refine tx ?_
  refine sr 1 ?_
  refine s1 (y_len_str rfl rfl Tryz.underlying9) ?_
  refine sr 1 ?_
  refine sgo ?_
  refine T_block ?_
  refine lK1 (kf := [(2, 3), (9, 22)]) (kl := [(2, 3), (9, 22)]) (fun (i : Nat) => [(9, true, .int .i64 (i : Int))]) (fun (i : Nat) => []) (fun (i : Nat) => i ≤ s.length ∧ s.any sayBad = (s.drop i).any sayBad) (fun (i : Nat) => s.length - i) 0 ?_ ?_ ?_ ?_
  · exact ⟨by omega, rfl⟩
  · exact ⟨rfl, trivial⟩
  · exact trivial
  rintro i ⟨hp1, hp2⟩
  refine tx ?_
  refine sr 1 ?_
  refine sgs ?_
  refine T_cond rfl ?_ ?_ <;> intro h10
  · try simp only [nrm] at h10
    refine kgs ?_
    refine T_block ?_
    refine tx ?_
    refine sr 2 ?_
    refine sgx ?_
    refine sr 2 ?_
    refine s1 (y_index_str rfl rfl rfl Tryz.underlying9 (fun _ => by omega)) ?_
    refine sr 2 ?_
    refine sg rfl (y_move rfl rfl) ?_
    refine sg rfl (y_move rfl rfl) ?_
    refine sg rfl (y_index_str rfl rfl rfl Tryz.underlying9 (fun hg => by simp only [Bool.true_and, Bool.and_eq_true, beq_iff_eq, decide_eq_true_eq, decide_eq_false_iff_not, Int.not_lt, Int.not_le] at hg; omega)) ?_
    refine sg rfl (y_bin rfl rfl rfl (fun _ => b_eql)) ?_
    refine s1 (y_as (v' := .bool (sayBad (s.getD i 0))) (by exact rfl) (y_or rfl rfl rfl)) ?_
    refine sgo ?_
    refine T_cond rfl ?_ ?_ <;> intro h21
    · skip
      refine tx ?_
      refine sr 1 ?_
      refine sgo ?_
      refine tr1 hRb fun w hM => ?_
      exact ⟨by rw [sayNo, if_neg (by omega), if_pos (by rw [hp2, drop_str (by omega), any_t h21])], hM.below⟩
    refine kgr ?_
    refine s1 (y_bin rfl rfl rfl (fun hg => b_add (by omega))) ?_
    refine sr 1 ?_
    refine S_nil (nK1 (kf := [(2, 3), (9, 22)]) (kl := [(2, 3), (9, 22)]) (i + 1) ?_ ?_ ?_ ?_)
    · omega
    · exact ⟨by omega, by rw [hp2, drop_str (by omega), any_f h21]⟩
    · exact ⟨rfl, trivial⟩
    · exact trivial
  try simp only [nrm] at h10
  refine egx ?_
  refine sr 1 ?_
  refine sgo ?_
  refine tr1 hRb fun w hM => ?_
  exact ⟨by rw [sayNo, if_neg (by omega), if_neg (by rw [hp2, List.drop_eq_nil_of_le (by omega)]; simp)], hM.below⟩
theorem sayFault_any (s : List UInt8) (hs : s.length ≤ 4611686018427387904) (w : World) :
    Calls Tryz.prog 51 #[str s] w fun e w' => e = .returned (.int .i64 (sayNo s)) ∧ Below w.heap.size w w' := by
  refine enter_args (args := [str s]) (F := _) Tryz.func51 rfl Tryz.ntmps51 rfl rfl ?_
  intro Rb hRb hRn
  refine tx ?_
  refine sr 1 ?_
  refine sgs ?_
  refine tx ?_
  refine sr 1 ?_
  refine s1 (y_len_str rfl rfl Tryz.underlying9) ?_
  refine sr 1 ?_
  refine sgo ?_
  refine T_cond rfl ?_ ?_ <;> intro h6
  · try simp only [nrm] at h6
    refine tx ?_
    refine sr 1 ?_
    refine sgo ?_
    refine tr1 hRb fun w hM => ?_
    exact ⟨by rw [sayNo, if_pos (by omega)], hM.below⟩
  try simp only [nrm] at h6
  refine kgs ?_
  refine tx ?_
  refine sr 1 ?_
  refine s1 (y_len_str rfl rfl Tryz.underlying9) ?_
  refine sr 1 ?_
  refine sgo ?_
  refine T_block ?_
  refine lK1 (kf := [(2, 3), (9, 22)]) (kl := [(2, 3), (9, 22)]) (fun (i : Nat) => [(9, true, .int .i64 (i : Int))]) (fun (i : Nat) => []) (fun (i : Nat) => i ≤ s.length ∧ s.any sayBad = (s.drop i).any sayBad) (fun (i : Nat) => s.length - i) 0 ?_ ?_ ?_ ?_
  · exact ⟨by omega, rfl⟩
  · exact ⟨rfl, trivial⟩
  · exact trivial
  rintro i ⟨hp1, hp2⟩
  refine tx ?_
  refine sr 1 ?_
  refine sgs ?_
  refine T_cond rfl ?_ ?_ <;> intro h10
  · try simp only [nrm] at h10
    refine kgs ?_
    refine T_block ?_
    refine tx ?_
    refine sr 2 ?_
    refine sgx ?_
    refine sr 2 ?_
    refine s1 (y_index_str rfl rfl rfl Tryz.underlying9 (fun _ => by omega)) ?_
    refine sr 2 ?_
    refine sg rfl (y_move rfl rfl) ?_
    refine sg rfl (y_move rfl rfl) ?_
    refine sg rfl (y_index_str rfl rfl rfl Tryz.underlying9 (fun hg => by simp only [Bool.true_and, Bool.and_eq_true, beq_iff_eq, decide_eq_true_eq, decide_eq_false_iff_not, Int.not_lt, Int.not_le] at hg; omega)) ?_
    refine sg rfl (y_bin rfl rfl rfl (fun _ => b_eql)) ?_
    refine s1 (y_as (v' := .bool (sayBad (s.getD i 0))) (by exact rfl) (y_or rfl rfl rfl)) ?_
    refine sgo ?_
    refine T_cond rfl ?_ ?_ <;> intro h21
    · skip
      refine tx ?_
      refine sr 1 ?_
      refine sgo ?_
      refine tr1 hRb fun w hM => ?_
      exact ⟨by rw [sayNo, if_neg (by omega), if_pos (by rw [hp2, drop_str (by omega), any_t h21])], hM.below⟩
    refine kgr ?_
    refine s1 (y_bin rfl rfl rfl (fun hg => b_add (by omega))) ?_
    refine sr 1 ?_
    refine S_nil (nK1 (kf := [(2, 3), (9, 22)]) (kl := [(2, 3), (9, 22)]) (i + 1) ?_ ?_ ?_ ?_)
    · omega
    · exact ⟨by omega, by rw [hp2, drop_str (by omega), any_f h21]⟩
    · exact ⟨rfl, trivial⟩
    · exact trivial
  try simp only [nrm] at h10
  refine egx ?_
  refine sr 1 ?_
  refine sgo ?_
  refine tr1 hRb fun w hM => ?_
  exact ⟨by rw [sayNo, if_neg (by omega), if_neg (by rw [hp2, List.drop_eq_nil_of_le (by omega)]; simp)], hM.below⟩
theorem CheckFault_any (f : Flt) (w : World) (hf : FltOk w f) :
    Calls Tryz.prog 62 #[f.val] w fun e w' => e = .returned (.int .i64 (fltNo f)) ∧ Below w.heap.size w w' := by
  have hk := hf.k
  have htl := hf.t
  refine enter_args (args := [.agg #[str f.k, str f.t, .slice f.fr.A f.fr.q f.fr.c]]) (F := _) Tryz.func62 rfl Tryz.ntmps62 rfl rfl ?_
  intro Rb hRb hRn
  refine tx ?_
  refine S_box 1 1 rfl rfl rfl rfl rfl ?_
  intro b1
  refine sr 1 ?_
  refine sgs ?_
  refine T_block ?_
  refine tx ?_
  refine s1 (yF fa36_0) ?_
  refine s1 (yL 1 Tryz.underlying9) ?_
  refine s1 (y_len_str rfl rfl Tryz.underlying9) ?_
  refine sr 2 ?_
  refine sgo ?_
  refine T_cond rfl ?_ ?_ <;> intro h4
  · try simp only [nrm] at h4
    refine tx ?_
    refine sr 1 ?_
    refine sgo ?_
    refine tr1 hRb fun w hM => ?_
    exact ⟨by rw [fltNo, if_pos (by omega)], hM.below⟩
  try simp only [nrm] at h4
  refine tx ?_
  refine s1 (yF fa36_0) ?_
  refine s1 (yL 1 Tryz.underlying9) ?_
  refine s1 (y_call rfl rfl rfl cf148 (fun hg w _ => isWord_any _ _ (by first | omega | (have := hsz; omega)) w)) ?_
  refine sr 2 ?_
  refine sgo ?_
  refine T_cond rfl ?_ ?_ <;> intro h9
  · try simp only [nrm] at h9
    refine tx ?_
    refine sr 1 ?_
    refine sgo ?_
    refine tr1 hRb fun w hM => ?_
    exact ⟨by rw [fltNo, if_neg (by omega), if_pos h9], hM.below⟩
  try simp only [nrm] at h9
  refine tx ?_
  refine s1 (yF fa36_0) ?_
  refine s1 (yL 1 Tryz.underlying9) ?_
  refine s1 (y_bin rfl rfl rfl (fun _ => b_eqls)) ?_
  refine sr 1 ?_
  refine sgo ?_
  refine T_cond rfl ?_ ?_ <;> intro h14
  · try simp only [nrm] at h14
    refine tx ?_
    refine sr 1 ?_
    refine sgo ?_
    refine tr1 hRb fun w hM => ?_
    exact ⟨by rw [fltNo, if_neg (by omega), if_neg (by rw [h9]; simp), if_pos h14], hM.below⟩
  try simp only [nrm] at h14
  refine tx ?_
  refine s1 (yF fa36_1) ?_
  refine s1 (yL 1 Tryz.underlying9) ?_
  refine s1 (y_len_str rfl rfl Tryz.underlying9) ?_
  refine sr 2 ?_
  refine sgo ?_
  refine T_cond rfl ?_ ?_ <;> intro h18
  · try simp only [nrm] at h18
    refine tx ?_
    refine sr 1 ?_
    refine sgo ?_
    refine tr1 hRb fun w hM => ?_
    exact ⟨by rw [fltNo_say (by omega) h9 h14 (k := 4) (by rw [sayNo, if_pos (by omega)]) (by decide)], hM.below⟩
  try simp only [nrm] at h18
  refine kgs ?_
  refine tx ?_
  refine s1 (yF fa36_1) ?_
  refine s1 (yL 1 Tryz.underlying9) ?_
  refine s1 (y_len_str rfl rfl Tryz.underlying9) ?_
  refine sr 1 ?_
  refine sgo ?_
  refine T_block ?_
  refine lK1 (kf := [(2, 3), (26, 41)]) (kl := [(2, 3), (26, 41)]) (fun (i : Nat) => [(26, true, .int .i64 (i : Int))]) (fun (i : Nat) => []) (fun (i : Nat) => i ≤ f.t.length ∧ f.t.any sayBad = (f.t.drop i).any sayBad) (fun (i : Nat) => f.t.length - i) 0 ?_ ?_ ?_ ?_
  · exact ⟨by omega, rfl⟩
  · exact ⟨rfl, trivial⟩
  · exact trivial
  rintro i ⟨hp1, hp2⟩
  refine tx ?_
  refine sr 1 ?_
  refine sgs ?_
  refine T_cond rfl ?_ ?_ <;> intro h27
  · try simp only [nrm] at h27
    refine kgs ?_
    refine T_block ?_
    refine tx ?_
    refine sr 2 ?_
    refine sgx ?_
    refine s1 (yF fa36_1) ?_
    refine s1 (yL 1 Tryz.underlying9) ?_
    refine sr 1 ?_
    refine s1 (y_index_str rfl rfl rfl Tryz.underlying9 (fun _ => by omega)) ?_
    refine sr 2 ?_
    refine sg rfl (yF fa36_1) ?_
    refine sg rfl (yL 1 Tryz.underlying9) ?_
    refine sg rfl (y_move rfl rfl) ?_
    refine sg rfl (y_index_str rfl rfl rfl Tryz.underlying9 (fun hg => by simp only [Bool.true_and, Bool.and_eq_true, beq_iff_eq, decide_eq_true_eq, decide_eq_false_iff_not, Int.not_lt, Int.not_le] at hg; omega)) ?_
    refine sg rfl (y_bin rfl rfl rfl (fun _ => b_eql)) ?_
    refine s1 (y_as (v' := .bool (sayBad (f.t.getD i 0))) (by exact rfl) (y_or rfl rfl rfl)) ?_
    refine sgo ?_
    refine T_cond rfl ?_ ?_ <;> intro h40
    · skip
      refine tx ?_
      refine sr 1 ?_
      refine sgo ?_
      refine tr1 hRb fun w hM => ?_
      exact ⟨by rw [fltNo_say (by omega) h9 h14 (k := 9) (by rw [sayNo, if_neg (by omega), if_pos (by rw [hp2, drop_str (by omega), any_t h40])]) (by decide)], hM.below⟩
    refine kgr ?_
    refine s1 (y_bin rfl rfl rfl (fun hg => b_add (by omega))) ?_
    refine sr 1 ?_
    refine S_nil (nK1 (kf := [(2, 3), (26, 41)]) (kl := [(2, 3), (26, 41)]) (i + 1) ?_ ?_ ?_ ?_)
    · omega
    · exact ⟨by omega, by rw [hp2, drop_str (by omega), any_f h40]⟩
    · exact ⟨rfl, trivial⟩
    · exact trivial
  try simp only [nrm] at h27
  refine egx ?_
  refine s1 (yF fa36_2) ?_
  refine s1 (yL 1 Tryz.underlying32) ?_
  refine s1 (y_call rfl rfl rfl cf149 (fun _ w hM => checkFrames_any _ w (hf.fr.below hM.below))) ?_
  refine sr 1 ?_
  refine sgo ?_
  refine tr1 hRb fun w hM => ?_
  exact ⟨by rw [fltNo_frs (by omega) h9 h14 (by rw [sayNo, if_neg (by omega), if_neg (by rw [hp2, List.drop_eq_nil_of_le (by omega)]; simp)])], hM.below⟩
theorem sCheck_any (l : Sl Flt) (w : World) (hl : FltsOk w l) :
    Calls Tryz.prog 21 #[.slice l.A l.q l.c] w fun e w' => e = .returned (.int .i64 (faultsNo l)) ∧ Below w.heap.size w w' := by
  have ht := hl.ok.t
  have hq := hl.q
  refine enter_args (args := [.slice l.A l.q l.c]) (F := _) Tryz.func21 rfl Tryz.ntmps21 rfl rfl ?_
  intro Rb hRb hRn
  refine tx ?_
  refine sr 1 ?_
  refine sgs ?_
  refine T_block ?_
  refine tx ?_
  refine sr 1 ?_
  refine s1 (y_len_slice rfl rfl Tryz.underlying22) ?_
  refine sr 2 ?_
  refine sgo ?_
  refine T_cond rfl ?_ ?_ <;> intro h6
  · try simp only [nrm] at h6
    refine tx ?_
    refine sr 1 ?_
    refine sgo ?_
    refine tr1 hRb fun w hM => ?_
    exact ⟨by rw [faultsNo, if_pos (by omega)], hM.below⟩
  try simp only [nrm] at h6
  refine tx ?_
  refine sr 1 ?_
  refine s1 (y_len_slice rfl rfl Tryz.underlying22) ?_
  refine sr 2 ?_
  refine sgo ?_
  refine T_cond rfl ?_ ?_ <;> intro h10
  · try simp only [nrm] at h10
    refine tx ?_
    refine sr 1 ?_
    refine sgo ?_
    refine tr1 hRb fun w hM => ?_
    exact ⟨by rw [faultsNo, if_neg (by omega), if_pos (by omega)], hM.below⟩
  try simp only [nrm] at h10
  refine kgs ?_
  refine tx ?_
  refine sr 1 ?_
  refine s1 (y_len_slice rfl rfl Tryz.underlying22) ?_
  refine sr 1 ?_
  refine sgo ?_
  refine T_block ?_
  refine lK1 (kf := [(2, 2), (4, 5), (16, 25)]) (kl := [(2, 2), (4, 5), (16, 25)]) (fun (i : Nat) => [(16, true, .int .i64 (i : Int))]) (fun (i : Nat) => []) (fun (i : Nat) => i ≤ l.q ∧ fltsNo l.l = fltsNo (l.l.drop i)) (fun (i : Nat) => l.q - i) 0 ?_ ?_ ?_ ?_
  · exact ⟨by omega, rfl⟩
  · exact ⟨rfl, trivial⟩
  · exact trivial
  rintro i ⟨hp1, hp2⟩
  refine tx ?_
  refine sr 1 ?_
  refine sgs ?_
  refine T_cond rfl ?_ ?_ <;> intro h17
  · try simp only [nrm] at h17
    obtain ⟨x, hx1, hx2⟩ := ht.at (i := i) (by omega)
    refine kgs ?_
    refine T_block ?_
    refine tx ?_
    refine s1 (y_indexAddr rfl rfl rfl Tryz.underlying22 sz36 (fun hg => ht.isSome (by omega)) (fun _ => by omega)) ?_
    refine s1 (y_loadT rfl rfl ht (fun _ => rfl) (fun _ => hx1) Tryz.underlying36 rfl sz36) ?_
    refine S_alloc 4 4 rfl rfl rfl rfl z36 ?_
    intro b4
    refine S_store 4 rfl rfl rfl rfl rfl rfl sz36 rfl rfl ?_
    refine sgx ?_
    refine s1 (yA 4 rfl Tryz.underlying36 sz36) ?_
    refine s1 (y_call rfl rfl rfl cf62 (fun _ w hM => CheckFault_any x w ((hl.n x (mem_at hx1)).below hM.below))) ?_
    refine sr 1 ?_
    refine sgx ?_
    refine sr 2 ?_
    refine sgo ?_
    refine T_cond rfl ?_ ?_ <;> intro h23
    · try simp only [nrm] at h23
      refine tx ?_
      refine sr 2 ?_
      refine sgo ?_
      refine tr1 hRb fun w hM => ?_
      exact ⟨by rw [faultsNo, if_neg (by omega), if_neg (by omega), hp2, hx2, fltsNo, if_pos h23], hM.below⟩
    try simp only [nrm] at h23
    refine kgr ?_
    refine s1 (y_bin rfl rfl rfl (fun hg => b_add (by omega))) ?_
    refine sr 1 ?_
    refine S_nil (nK1 (kf := [(2, 2), (4, 5), (16, 25)]) (kl := [(2, 2), (4, 5), (16, 25)]) (i + 1) ?_ ?_ ?_ ?_)
    · omega
    · exact ⟨by omega, by rw [hp2, hx2, fltsNo, if_neg (by simpa using h23)]⟩
    · exact ⟨rfl, trivial⟩
    · exact trivial
  try simp only [nrm] at h17
  refine egx ?_
  refine sr 1 ?_
  refine sgo ?_
  refine tr1 hRb fun w hM => ?_
  exact ⟨by rw [faultsNo, if_neg (by omega), if_neg (by omega), hp2, ht.end (by omega)]; rfl, hM.below⟩
theorem FaultsFault_any (l : Sl Flt) (w : World) (hl : FltsOk w l) :
    Calls Tryz.prog 47 #[.slice l.A l.q l.c] w fun e w' => e = .returned (.int .i64 (faultsNo l)) ∧ Below w.heap.size w w' := by
  have ht := hl.ok.t
  have hq := hl.q
  refine enter_args (args := [.slice l.A l.q l.c]) (F := _) Tryz.func47 rfl Tryz.ntmps47 rfl rfl ?_
  intro Rb hRb hRn
  refine tx ?_
  refine sr 1 ?_
  refine sgs ?_
  refine tx ?_
  refine sr 1 ?_
  refine s1 (y_len_slice rfl rfl Tryz.underlying22) ?_
  refine sr 1 ?_
  refine sgo ?_
  refine T_cond rfl ?_ ?_ <;> intro h10
  · try simp only [nrm] at h10
    refine tx ?_
    refine sr 1 ?_
    refine sgo ?_
    refine tr1 hRb fun w hM => ?_
    exact ⟨by rw [faultsNo, if_pos (by omega)], hM.below⟩
  try simp only [nrm] at h10
  refine kgs ?_
  refine tx ?_
  refine sr 1 ?_
  refine s1 (y_len_slice rfl rfl Tryz.underlying22) ?_
  refine sr 1 ?_
  refine sgo ?_
  refine T_cond rfl ?_ ?_ <;> intro h13
  · try simp only [nrm] at h13
    refine tx ?_
    refine sr 1 ?_
    refine sgo ?_
    refine tr1 hRb fun w hM => ?_
    exact ⟨by rw [faultsNo, if_neg (by omega), if_pos (by omega)], hM.below⟩
  try simp only [nrm] at h13
  refine kgs ?_
  refine tx ?_
  refine sr 1 ?_
  refine s1 (y_len_slice rfl rfl Tryz.underlying22) ?_
  refine sr 1 ?_
  refine sgo ?_
  refine T_block ?_
  refine lK1 (kf := [(2, 2), (4, 7), (16, 65)]) (kl := [(2, 2), (4, 7), (16, 65)]) (fun (i : Nat) => [(16, true, .int .i64 (i : Int))]) (fun (i : Nat) => []) (fun (i : Nat) => i ≤ l.q ∧ fltsNo l.l = fltsNo (l.l.drop i)) (fun (i : Nat) => l.q - i) 0 ?_ ?_ ?_ ?_
  · exact ⟨by omega, rfl⟩
  · exact ⟨rfl, trivial⟩
  · exact trivial
  rintro i ⟨hp1, hp2⟩
  refine tx ?_
  refine sr 1 ?_
  refine sgs ?_
  refine T_cond rfl ?_ ?_ <;> intro h17
  · try simp only [nrm] at h17
    obtain ⟨x, hx1, hx2⟩ := ht.at (i := i) (by omega)
    have hf := hl.n x (mem_at hx1)
    have hk := hf.k
    have htl := hf.t
    refine kgs ?_
    refine T_block ?_
    refine tx ?_
    refine s1 (y_indexAddr rfl rfl rfl Tryz.underlying22 sz36 (fun hg => ht.isSome (by omega)) (fun _ => by omega)) ?_
    refine s1 (y_loadT rfl rfl ht (fun _ => rfl) (fun _ => hx1) Tryz.underlying36 rfl sz36) ?_
    refine S_alloc 4 4 rfl rfl rfl rfl z36 ?_
    intro b4
    refine S_store 4 rfl rfl rfl rfl rfl rfl sz36 rfl rfl ?_
    refine sgs ?_
    refine tx ?_
    refine s1 (yF fa36_0) ?_
    refine s1 (yL 4 Tryz.underlying9) ?_
    refine s1 (y_len_str rfl rfl Tryz.underlying9) ?_
    refine sr 1 ?_
    refine sgo ?_
    refine T_cond rfl ?_ ?_ <;> intro h23
    · try simp only [nrm] at h23
      refine tx ?_
      refine sr 1 ?_
      refine sgo ?_
      refine tr1 hRb fun w hM => ?_
      exact ⟨by rw [faultsNo, if_neg (by omega), if_neg (by omega), hp2, hx2, fltsNo, show fltNo x = 4 from by rw [fltNo, if_pos (by omega)], if_pos (by decide)], hM.below⟩
    try simp only [nrm] at h23
    refine kgs ?_
    refine tx ?_
    refine s1 (yF fa36_0) ?_
    refine s1 (yL 4 Tryz.underlying9) ?_
    refine s1 (y_len_str rfl rfl Tryz.underlying9) ?_
    refine sr 1 ?_
    refine sgo ?_
    refine T_block ?_
    refine lK1 (kf := [(2, 2), (5, 5), (27, 49)]) (kl := [(2, 2), (5, 5), (27, 49)]) (fun (j : Nat) => [(27, true, .int .i64 (j : Int))]) (fun (j : Nat) => []) (fun (j : Nat) => j ≤ x.k.length ∧ wordOk [58] x.k = wordOk [58] (x.k.drop j)) (fun (j : Nat) => x.k.length - j) 0 ?_ ?_ ?_ ?_
    · exact ⟨by omega, rfl⟩
    · exact ⟨rfl, trivial⟩
    · exact trivial
    rintro j ⟨hr1, hr2⟩
    refine tx ?_
    refine sr 1 ?_
    refine sgs ?_
    refine T_cond rfl ?_ ?_ <;> intro h28
    · try simp only [nrm] at h28
      refine kgs ?_
      refine T_block ?_
      refine tx ?_
      refine sr 2 ?_
      refine sgx ?_
      refine s1 (yF fa36_0) ?_
      refine s1 (yL 4 Tryz.underlying9) ?_
      refine sr 1 ?_
      refine s1 (y_index_str rfl rfl rfl Tryz.underlying9 (fun _ => by omega)) ?_
      refine sr 2 ?_
      refine sg rfl (yF fa36_0) ?_
      refine sg rfl (yL 4 Tryz.underlying9) ?_
      refine sg rfl (y_move rfl rfl) ?_
      refine sg rfl (y_index_str rfl rfl rfl Tryz.underlying9 (fun hg => by simp only [Bool.true_and, Bool.and_eq_true, beq_iff_eq, decide_eq_true_eq, decide_eq_false_iff_not, Int.not_lt, Int.not_le] at hg; omega)) ?_
      refine sg rfl (y_bin rfl rfl rfl (fun _ => b_gtr)) ?_
      refine s1 (y_or rfl rfl rfl) ?_
      refine sr 1 ?_
      refine sg rfl (yF fa36_0) ?_
      refine sg rfl (yL 4 Tryz.underlying9) ?_
      refine sg rfl (y_move rfl rfl) ?_
      refine sg rfl (y_index_str rfl rfl rfl Tryz.underlying9 (fun hg => by simp only [Bool.true_and, Bool.and_eq_true, beq_iff_eq, decide_eq_true_eq, decide_eq_false_iff_not, Int.not_lt, Int.not_le] at hg; omega)) ?_
      refine sg rfl (y_bin rfl rfl rfl (fun _ => b_eql)) ?_
      refine s1 (y_as (v' := .bool (byteBad [58] (x.k.getD j 0))) (by rw [one58]) (y_or rfl rfl rfl)) ?_
      refine sgo ?_
      refine T_cond rfl ?_ ?_ <;> intro h48
      · skip
        refine tx ?_
        refine sr 1 ?_
        refine sgo ?_
        refine tr1 hRb fun w hM => ?_
        exact ⟨by rw [faultsNo, if_neg (by omega), if_neg (by omega), hp2, hx2, fltsNo, show fltNo x = 9 from by rw [fltNo, if_neg (by omega), if_pos (by rw [hr2, drop_str (by omega), wordOk_bad h48])], if_pos (by decide)], hM.below⟩
      refine kgr ?_
      refine s1 (y_bin rfl rfl rfl (fun hg => b_add (by omega))) ?_
      refine sr 1 ?_
      refine S_nil (nK1 (kf := [(2, 2), (5, 5), (27, 49)]) (kl := [(2, 2), (5, 5), (27, 49)]) (j + 1) ?_ ?_ ?_ ?_)
      · omega
      · exact ⟨by omega, by rw [hr2, drop_str (by omega), wordOk_next h48]⟩
      · exact ⟨rfl, trivial⟩
      · exact trivial
    try simp only [nrm] at h28
    have hw : wordOk [58] x.k = true := by rw [hr2, List.drop_eq_nil_of_le (by omega)]; rfl
    refine egs ?_
    refine tx ?_
    refine s1 (yF fa36_0) ?_
    refine s1 (yL 4 Tryz.underlying9) ?_
    refine s1 (y_bin rfl rfl rfl (fun _ => b_eqls)) ?_
    refine sgo ?_
    refine T_cond rfl ?_ ?_ <;> intro h52
    · try simp only [nrm] at h52
      refine tx ?_
      refine sr 1 ?_
      refine sgo ?_
      refine tr1 hRb fun w hM => ?_
      exact ⟨by rw [faultsNo, if_neg (by omega), if_neg (by omega), hp2, hx2, fltsNo, show fltNo x = 1 from by rw [fltNo, if_neg (by omega), if_neg (by rw [hw]; simp), if_pos h52], if_pos (by decide)], hM.below⟩
    try simp only [nrm] at h52
    refine kgs ?_
    refine tx ?_
    refine s1 (yF fa36_1) ?_
    refine s1 (yL 4 Tryz.underlying9) ?_
    refine s1 (y_call rfl rfl rfl cf51 (fun _ w _ => sayFault_any _ (by first | omega | (simp; done) | (simp; omega) | (simp only; omega)) w)) ?_
    refine sr 1 ?_
    refine sgx ?_
    refine sr 2 ?_
    refine sgo ?_
    refine T_cond rfl ?_ ?_ <;> intro h57
    · try simp only [nrm] at h57
      refine tx ?_
      refine sr 2 ?_
      refine sgo ?_
      refine tr1 hRb fun w hM => ?_
      exact ⟨by rw [faultsNo, if_neg (by omega), if_neg (by omega), hp2, hx2, fltsNo, fltNo_say (by omega) hw h52 rfl h57, if_pos h57], hM.below⟩
    try simp only [nrm] at h57
    refine kgx ?_
    refine s1 (yF fa36_2) ?_
    refine s1 (yL 4 Tryz.underlying32) ?_
    refine s1 (y_call rfl rfl rfl cf123 (fun _ w hM => FramesFault_any _ w (hf.fr.below hM.below))) ?_
    refine sr 1 ?_
    refine sgx ?_
    refine sr 2 ?_
    refine sgo ?_
    refine T_cond rfl ?_ ?_ <;> intro h63
    · try simp only [nrm] at h63
      refine tx ?_
      refine sr 2 ?_
      refine sgo ?_
      refine tr1 hRb fun w hM => ?_
      exact ⟨by rw [faultsNo, if_neg (by omega), if_neg (by omega), hp2, hx2, fltsNo, fltNo_frs (by omega) hw h52 (by simpa using h57), if_pos h63], hM.below⟩
    try simp only [nrm] at h63
    refine kgr ?_
    refine s1 (y_bin rfl rfl rfl (fun hg => b_add (by omega))) ?_
    refine sr 1 ?_
    refine S_nil (nK1 (kf := [(2, 2), (4, 7), (16, 65)]) (kl := [(2, 2), (4, 7), (16, 65)]) (i + 1) ?_ ?_ ?_ ?_)
    · omega
    · exact ⟨by omega, by rw [hp2, hx2, fltsNo, if_neg (by rw [fltNo_frs (by omega) hw h52 (by simpa using h57)]; simpa using h63)]⟩
    · exact ⟨rfl, trivial⟩
    · exact trivial
  try simp only [nrm] at h17
  refine egx ?_
  refine sr 1 ?_
  refine sgo ?_
  refine tr1 hRb fun w hM => ?_
  exact ⟨by rw [faultsNo, if_neg (by omega), if_neg (by omega), hp2, ht.end (by omega)]; rfl, hM.below⟩
theorem checkTags_any (l : Sl STag) (w : World) (hl : TagsOk w l) :
    Calls Tryz.prog 22 #[.slice l.A l.q l.c] w fun e w' => e = .returned (.int .i64 (if (40 : Int) < l.q then 4 else tagsNo none l.l)) ∧ Below w.heap.size w w' := by
  have ht := hl.ok.t
  have hq := hl.q
  refine enter_args (args := [.slice l.A l.q l.c]) (F := _) Tryz.func22 rfl Tryz.ntmps22 rfl rfl ?_
  intro Rb hRb hRn
  refine tx ?_
  refine sr 1 ?_
  refine sgs ?_
  refine tx ?_
  refine sr 1 ?_
  refine s1 (y_len_slice rfl rfl Tryz.underlying23) ?_
  refine sr 1 ?_
  refine sgo ?_
  refine T_cond rfl ?_ ?_ <;> intro h8
  · try simp only [nrm] at h8
    refine tx ?_
    refine sr 1 ?_
    refine sgo ?_
    refine tr1 hRb fun w hM => ?_
    exact ⟨by rw [if_pos (by omega)], hM.below⟩
  try simp only [nrm] at h8
  refine kgs ?_
  refine tx ?_
  refine sr 1 ?_
  refine s1 (y_len_slice rfl rfl Tryz.underlying23) ?_
  refine sr 1 ?_
  refine sgo ?_
  refine T_block ?_
  refine lK2 (kf := [(2, 5), (11, 39)]) (kl := [(2, 5), (11, 39)]) (fun (i : Nat) (b : STag) => [(11, true, .int .i64 (i : Int))]) (fun (i : Nat) (b : STag) => []) (fun (i : Nat) (b : STag) => i ≤ l.q ∧ tagsNo none l.l = tagsNo (prevN i b) (l.l.drop i) ∧ (0 < i → l.l[i - 1]? = some b)) (fun (i : Nat) (b : STag) => l.q - i) 0 ⟨[], []⟩ ?_ ?_ ?_ ?_
  · exact ⟨by omega, rfl, by omega⟩
  · exact ⟨rfl, trivial⟩
  · exact trivial
  rintro i b ⟨hp1, hp2, hp3⟩
  refine tx ?_
  refine sr 1 ?_
  refine sgs ?_
  refine T_cond rfl ?_ ?_ <;> intro h12
  · try simp only [nrm] at h12
    obtain ⟨x, hx1, hx2⟩ := ht.at (i := i) (by omega)
    have hn := hl.n x (mem_at hx1)
    have hn2 := hn.2
    refine kgs ?_
    refine T_block ?_
    refine tx ?_
    refine sr 1 ?_
    refine s1 (y_indexAddr rfl rfl rfl Tryz.underlying23 sz83 (fun hg => ht.isSome (by omega)) (fun _ => by omega)) ?_
    refine s1 (y_loadT rfl rfl ht (fun _ => rfl) (fun _ => hx1) Tryz.underlying83 rfl sz83) ?_
    refine S_alloc 4 4 rfl rfl rfl rfl z83 ?_
    intro b4
    refine sr 1 ?_
    refine S_store 4 rfl rfl rfl rfl rfl rfl sz83 rfl rfl ?_
    refine sgs ?_
    refine tx ?_
    refine s1 (yF fa83_0) ?_
    refine s1 (yL 4 Tryz.underlying9) ?_
    refine s1 (y_call rfl rfl rfl cf24 (fun _ w _ => IsName_any _ w)) ?_
    refine sr 1 ?_
    refine sgo ?_
    refine T_cond rfl ?_ ?_ <;> intro h19
    · try simp only [nrm] at h19
      refine tx ?_
      refine sr 1 ?_
      refine sgo ?_
      refine tr1 hRb fun w hM => ?_
      exact ⟨by rw [if_neg (by omega), hp2, hx2, tagsNo, if_pos h19], hM.below⟩
    try simp only [nrm] at h19
    refine kgs ?_
    refine T_seq ?_
    refine T_draws (by kernel_rfl) (by kernel_rfl) ?_
    refine d1 (y_move rfl rfl) ?_
    refine d1 (y_bin rfl rfl rfl (fun _ => b_gtr)) ?_
    refine d1 (y_move rfl rfl) ?_
    refine dg rfl (yF fa83_0) ?_
    refine dg rfl (yL 4 Tryz.underlying9) ?_
    refine dg rfl (y_move rfl rfl) ?_
    refine dg rfl (y_move rfl rfl) ?_
    refine dg rfl (y_bin rfl rfl rfl (fun hg => b_subv (((i - 1 : Nat) : Int)) (by simp only [Bool.true_and, Bool.and_eq_true, beq_iff_eq, decide_eq_true_eq, decide_eq_false_iff_not, Int.not_lt, Int.not_le] at hg; omega) (by simp only [Bool.true_and, Bool.and_eq_true, beq_iff_eq, decide_eq_true_eq, decide_eq_false_iff_not, Int.not_lt, Int.not_le] at hg; omega))) ?_
    refine dg rfl (y_indexAddr rfl rfl rfl Tryz.underlying23 sz83 (fun hg => ht.isSome (by simp only [Bool.true_and, Bool.and_eq_true, beq_iff_eq, decide_eq_true_eq, decide_eq_false_iff_not, Int.not_lt, Int.not_le] at hg; omega)) (fun hg => by simp only [Bool.true_and, Bool.and_eq_true, beq_iff_eq, decide_eq_true_eq, decide_eq_false_iff_not, Int.not_lt, Int.not_le] at hg; omega)) ?_
    refine dg rfl (y_fieldEl rfl rfl ht.rd (fun hg => by simp only [Bool.true_and, Bool.and_eq_true, beq_iff_eq, decide_eq_true_eq, decide_eq_false_iff_not, Int.not_lt, Int.not_le] at hg; omega) fa83_0) ?_
    refine dg rfl (y_load_fT rfl rfl ht (fun _ => rfl) (fun hg => hp3 (by simp only [Bool.true_and, Bool.and_eq_true, beq_iff_eq, decide_eq_true_eq, decide_eq_false_iff_not, Int.not_lt, Int.not_le] at hg; omega)) rfl Tryz.underlying9 rfl) ?_
    refine dg rfl (y_bin rfl rfl rfl (fun _ => b_leqs)) ?_
    refine d1 (y_as (v' := .bool ((prevN i b).any fun s => Op.bytesLess x.n s || decide (x.n = s))) (by rw [prevN_any]) (y_and rfl rfl rfl)) ?_
    refine dgo ?_
    refine T_cond rfl ?_ ?_ <;> intro h32
    · skip
      refine tx ?_
      refine sr 1 ?_
      refine sgo ?_
      refine tr1 hRb fun w hM => ?_
      exact ⟨by rw [if_neg (by omega), hp2, hx2, tagsNo, if_neg (by rw [h19]; simp), if_t h32], hM.below⟩
    refine kgx ?_
    refine s1 (yF fa83_1) ?_
    refine s1 (yL 4 Tryz.underlying9) ?_
    refine s1 (y_call rfl rfl rfl cf25 (fun _ w _ => checkValue_any _ (by first | omega | (simp; done) | (simp; omega) | (simp only; omega)) w)) ?_
    refine sr 1 ?_
    refine sgx ?_
    refine sr 2 ?_
    refine sgo ?_
    refine T_cond rfl ?_ ?_ <;> intro h37
    · try simp only [nrm] at h37
      refine tx ?_
      refine sr 2 ?_
      refine sgo ?_
      refine tr1 hRb fun w hM => ?_
      exact ⟨by rw [if_neg (by omega), hp2, hx2, tagsNo, if_neg (by rw [h19]; simp), if_f h32, if_pos h37], hM.below⟩
    try simp only [nrm] at h37
    refine kgr ?_
    refine s1 (y_bin rfl rfl rfl (fun hg => b_add (by omega))) ?_
    refine sr 1 ?_
    refine S_nil (nK2 (kf := [(2, 5), (11, 39)]) (kl := [(2, 5), (11, 39)]) (i + 1) x ?_ ?_ ?_ ?_)
    · omega
    · exact ⟨by omega, by rw [hp2, hx2, tagsNo, if_neg (by rw [h19]; simp), if_f h32, if_neg (by simpa using h37)]; rfl, fun _ => hx1⟩
    · exact ⟨rfl, trivial⟩
    · exact trivial
  try simp only [nrm] at h12
  refine egx ?_
  refine sr 1 ?_
  refine sgo ?_
  refine tr1 hRb fun w hM => ?_
  exact ⟨by rw [if_neg (by omega), hp2, ht.end (by omega), tagsNo_nil], hM.below⟩
theorem checkCrumbs_any (l : Sl SCrumb) (w : World) (hl : CrumbsOk w l) :
    Calls Tryz.prog 23 #[.slice l.A l.q l.c] w fun e w' => e = .returned (.int .i64 (if (50 : Int) < l.q then 4 else crumbsNo none l.l)) ∧ Below w.heap.size w w' := by
  have ht := hl.ok.t
  have hq := hl.q
  refine enter_args (args := [.slice l.A l.q l.c]) (F := _) Tryz.func23 rfl Tryz.ntmps23 rfl rfl ?_
  intro Rb hRb hRn
  refine tx ?_
  refine sr 1 ?_
  refine sgs ?_
  refine tx ?_
  refine sr 1 ?_
  refine s1 (y_len_slice rfl rfl Tryz.underlying24) ?_
  refine sr 1 ?_
  refine sgo ?_
  refine T_cond rfl ?_ ?_ <;> intro h8
  · try simp only [nrm] at h8
    refine tx ?_
    refine sr 1 ?_
    refine sgo ?_
    refine tr1 hRb fun w hM => ?_
    exact ⟨by rw [if_pos (by omega)], hM.below⟩
  try simp only [nrm] at h8
  refine kgs ?_
  refine tx ?_
  refine sr 1 ?_
  refine s1 (y_len_slice rfl rfl Tryz.underlying24) ?_
  refine sr 1 ?_
  refine sgo ?_
  refine T_block ?_
  refine lK2 (kf := [(2, 5), (11, 45)]) (kl := [(2, 5), (11, 45)]) (fun (i : Nat) (b : SCrumb) => [(11, true, .int .i64 (i : Int))]) (fun (i : Nat) (b : SCrumb) => []) (fun (i : Nat) (b : SCrumb) => i ≤ l.q ∧ crumbsNo none l.l = crumbsNo (prevA i b) (l.l.drop i) ∧ (0 < i → l.l[i - 1]? = some b)) (fun (i : Nat) (b : SCrumb) => l.q - i) 0 ⟨0, [], []⟩ ?_ ?_ ?_ ?_
  · exact ⟨by omega, rfl, by omega⟩
  · exact ⟨rfl, trivial⟩
  · exact trivial
  rintro i b ⟨hp1, hp2, hp3⟩
  refine tx ?_
  refine sr 1 ?_
  refine sgs ?_
  refine T_cond rfl ?_ ?_ <;> intro h12
  · try simp only [nrm] at h12
    obtain ⟨x, hx1, hx2⟩ := ht.at (i := i) (by omega)
    have hn := hl.n x (mem_at hx1)
    have hn2 := hn.2
    refine kgs ?_
    refine T_block ?_
    refine tx ?_
    refine sr 1 ?_
    refine s1 (y_indexAddr rfl rfl rfl Tryz.underlying24 sz85 (fun hg => ht.isSome (by omega)) (fun _ => by omega)) ?_
    refine s1 (y_loadT rfl rfl ht (fun _ => rfl) (fun _ => hx1) Tryz.underlying85 rfl sz85) ?_
    refine S_alloc 4 4 rfl rfl rfl rfl z85 ?_
    intro b4
    refine sr 1 ?_
    refine S_store 4 rfl rfl rfl rfl rfl rfl sz85 rfl rfl ?_
    refine sgs ?_
    refine T_block ?_
    refine tx ?_
    refine s1 (yF fa85_0) ?_
    refine s1 (yL 4 Tryz.underlying3) ?_
    refine s1 (y_call rfl rfl rfl cf26 (fun _ w _ => eoutside_any _ _ _ w)) ?_
    refine sr 1 ?_
    refine sgo ?_
    refine T_cond rfl ?_ ?_ <;> intro h16
    · skip
      refine tx ?_
      refine sr 1 ?_
      refine sgo ?_
      refine tr1 hRb fun w hM => ?_
      exact ⟨by rw [if_neg (by omega), hp2, hx2, crumbsNo, if_t h16], hM.below⟩
    refine T_seq ?_
    refine T_draws (by kernel_rfl) (by kernel_rfl) ?_
    refine d1 (y_move rfl rfl) ?_
    refine d1 (y_bin rfl rfl rfl (fun _ => b_gtr)) ?_
    refine d1 (y_move rfl rfl) ?_
    refine dg rfl (yF fa85_0) ?_
    refine dg rfl (yL 4 Tryz.underlying3) ?_
    refine dg rfl (y_move rfl rfl) ?_
    refine dg rfl (y_move rfl rfl) ?_
    refine dg rfl (y_bin rfl rfl rfl (fun hg => b_subv (((i - 1 : Nat) : Int)) (by simp only [Bool.true_and, Bool.and_eq_true, beq_iff_eq, decide_eq_true_eq, decide_eq_false_iff_not, Int.not_lt, Int.not_le] at hg; omega) (by simp only [Bool.true_and, Bool.and_eq_true, beq_iff_eq, decide_eq_true_eq, decide_eq_false_iff_not, Int.not_lt, Int.not_le] at hg; omega))) ?_
    refine dg rfl (y_indexAddr rfl rfl rfl Tryz.underlying24 sz85 (fun hg => ht.isSome (by simp only [Bool.true_and, Bool.and_eq_true, beq_iff_eq, decide_eq_true_eq, decide_eq_false_iff_not, Int.not_lt, Int.not_le] at hg; omega)) (fun hg => by simp only [Bool.true_and, Bool.and_eq_true, beq_iff_eq, decide_eq_true_eq, decide_eq_false_iff_not, Int.not_lt, Int.not_le] at hg; omega)) ?_
    refine dg rfl (y_fieldEl rfl rfl ht.rd (fun hg => by simp only [Bool.true_and, Bool.and_eq_true, beq_iff_eq, decide_eq_true_eq, decide_eq_false_iff_not, Int.not_lt, Int.not_le] at hg; omega) fa85_0) ?_
    refine dg rfl (y_load_fT rfl rfl ht (fun _ => rfl) (fun hg => hp3 (by simp only [Bool.true_and, Bool.and_eq_true, beq_iff_eq, decide_eq_true_eq, decide_eq_false_iff_not, Int.not_lt, Int.not_le] at hg; omega)) rfl Tryz.underlying3 rfl) ?_
    refine dg rfl (y_bin rfl rfl rfl (fun _ => b_lss)) ?_
    refine d1 (y_as (v' := .bool ((prevA i b).any fun n => decide (x.at_ < n))) (by rw [prevA_any]) (y_and rfl rfl rfl)) ?_
    refine d1 (y_assign rfl rfl) ?_
    refine dgo ?_
    refine T_cond rfl ?_ ?_ <;> intro h20
    · skip
      refine tx ?_
      refine sr 1 ?_
      refine sgo ?_
      refine tr1 hRb fun w hM => ?_
      exact ⟨by rw [if_neg (by omega), hp2, hx2, crumbsNo, if_f h16, if_t h20], hM.below⟩
    refine tx ?_
    refine s1 (yF fa85_1) ?_
    refine s1 (yL 4 Tryz.underlying9) ?_
    refine s1 (y_call rfl rfl rfl cf24 (fun _ w _ => IsName_any _ w)) ?_
    refine sr 2 ?_
    refine sgo ?_
    refine T_cond rfl ?_ ?_ <;> intro h34
    · try simp only [nrm] at h34
      refine tx ?_
      refine sr 1 ?_
      refine sgo ?_
      refine tr1 hRb fun w hM => ?_
      exact ⟨by rw [if_neg (by omega), hp2, hx2, crumbsNo, if_f h16, if_f h20, if_pos h34], hM.below⟩
    try simp only [nrm] at h34
    refine kgx ?_
    refine s1 (yF fa85_2) ?_
    refine s1 (yL 4 Tryz.underlying9) ?_
    refine s1 (y_call rfl rfl rfl cf63 (fun _ w _ => checkSay_any _ (by first | omega | (simp; done) | (simp; omega) | (simp only; omega)) w)) ?_
    refine sr 1 ?_
    refine sgx ?_
    refine sr 2 ?_
    refine sgo ?_
    refine T_cond rfl ?_ ?_ <;> intro h43
    · try simp only [nrm] at h43
      refine tx ?_
      refine sr 2 ?_
      refine sgo ?_
      refine tr1 hRb fun w hM => ?_
      exact ⟨by rw [if_neg (by omega), hp2, hx2, crumbsNo, if_f h16, if_f h20, if_neg (by rw [h34]; simp), if_pos h43], hM.below⟩
    try simp only [nrm] at h43
    refine kgr ?_
    refine s1 (y_bin rfl rfl rfl (fun hg => b_add (by omega))) ?_
    refine sr 1 ?_
    refine S_nil (nK2 (kf := [(2, 5), (11, 45)]) (kl := [(2, 5), (11, 45)]) (i + 1) x ?_ ?_ ?_ ?_)
    · omega
    · exact ⟨by omega, by rw [hp2, hx2, crumbsNo, if_f h16, if_f h20, if_neg (by rw [h34]; simp), if_neg (by simpa using h43)]; rfl, fun _ => hx1⟩
    · exact ⟨rfl, trivial⟩
    · exact trivial
  try simp only [nrm] at h12
  refine egx ?_
  refine sr 1 ?_
  refine sgo ?_
  refine tr1 hRb fun w hM => ?_
  exact ⟨by rw [if_neg (by omega), hp2, ht.end (by omega), crumbsNo_nil], hM.below⟩
theorem checkHead_any (e : Evt) (w : World) :
    Calls Tryz.prog 20 #[e.val] w fun en w' => en = .returned (.int .i64 (headNo e.id e.at_ e.lv)) ∧ Below w.heap.size w w' := by
  refine enter_args (args := [.agg #[str e.id, .int .i64 e.at_, .int .i64 e.lv, .slice e.fa.A e.fa.q e.fa.c, .slice e.ta.A e.ta.q e.ta.c, .slice e.cr.A e.cr.q e.cr.c, str e.rel, str e.us, .int .i64 e.wt]]) (F := _) Tryz.func20 rfl Tryz.ntmps20 rfl rfl ?_
  intro Rb hRb hRn
  refine tx ?_
  refine S_box 1 1 rfl rfl rfl rfl rfl ?_
  intro b1
  refine sr 1 ?_
  refine sgs ?_
  refine tx ?_
  refine s1 (yF fa26_0) ?_
  refine s1 (yL 1 Tryz.underlying9) ?_
  refine s1 (y_call rfl rfl rfl cf61 (fun _ w _ => isDigest_any _ w)) ?_
  refine sr 1 ?_
  refine sgo ?_
  refine T_cond rfl ?_ ?_ <;> intro h6
  · try simp only [nrm] at h6
    refine tx ?_
    refine sr 1 ?_
    refine sgo ?_
    refine tr1 hRb fun w hM => ?_
    exact ⟨by rw [headNo, if_pos h6], hM.below⟩
  try simp only [nrm] at h6
  refine kgs ?_
  refine tx ?_
  refine s1 (yF fa26_1) ?_
  refine s1 (yL 1 Tryz.underlying3) ?_
  refine s1 (y_call rfl rfl rfl cf26 (fun _ w _ => eoutside_any _ _ _ w)) ?_
  refine sr 1 ?_
  refine sg rfl (yF fa26_2) ?_
  refine sg rfl (yL 1 Tryz.underlying3) ?_
  refine sg rfl (y_call rfl rfl rfl cf26 (fun _ w _ => eoutside_any _ _ _ w)) ?_
  refine s1 (y_or rfl rfl rfl) ?_
  refine sgo ?_
  refine T_cond rfl ?_ ?_ <;> intro h14
  · skip
    refine tx ?_
    refine sr 1 ?_
    refine sgo ?_
    refine tr1 hRb fun w hM => ?_
    exact ⟨by rw [headNo, if_neg (by rw [h6]; simp), if_t h14], hM.below⟩
  refine kgx ?_
  refine sr 1 ?_
  refine sgo ?_
  refine tr1 hRb fun w hM => ?_
  exact ⟨by rw [headNo, if_neg (by rw [h6]; simp), if_f h14], hM.below⟩
theorem HeadFault_any (e : Evt) (w : World) :
    Calls Tryz.prog 46 #[e.val] w fun en w' => en = .returned (.int .i64 (headNo e.id e.at_ e.lv)) ∧ Below w.heap.size w w' := by
  refine enter_args (args := [.agg #[str e.id, .int .i64 e.at_, .int .i64 e.lv, .slice e.fa.A e.fa.q e.fa.c, .slice e.ta.A e.ta.q e.ta.c, .slice e.cr.A e.cr.q e.cr.c, str e.rel, str e.us, .int .i64 e.wt]]) (F := _) Tryz.func46 rfl Tryz.ntmps46 rfl rfl ?_
  intro Rb hRb hRn
  refine tx ?_
  refine S_box 1 1 rfl rfl rfl rfl rfl ?_
  intro b1
  refine sr 1 ?_
  refine sgs ?_
  refine T_block ?_
  refine tx ?_
  refine s1 (yF fa26_0) ?_
  refine s1 (yL 1 Tryz.underlying9) ?_
  refine s1 (y_call rfl rfl rfl cf122 (fun _ w _ => digits16_any _ w)) ?_
  refine sr 2 ?_
  refine sgo ?_
  refine T_cond rfl ?_ ?_ <;> intro h3
  · try simp only [nrm] at h3
    refine tx ?_
    refine sr 1 ?_
    refine sgo ?_
    refine tr1 hRb fun w hM => ?_
    exact ⟨by rw [headNo, if_pos h3], hM.below⟩
  try simp only [nrm] at h3
  refine tx ?_
  refine s1 (yF fa26_1) ?_
  refine s1 (yL 1 Tryz.underlying3) ?_
  refine s1 (y_call rfl rfl rfl cf50 (fun _ w _ => out_any _ _ _ w)) ?_
  refine sr 1 ?_
  refine sg rfl (yF fa26_2) ?_
  refine sg rfl (yL 1 Tryz.underlying3) ?_
  refine sg rfl (y_call rfl rfl rfl cf50 (fun _ w _ => out_any _ _ _ w)) ?_
  refine s1 (y_or rfl rfl rfl) ?_
  refine sr 1 ?_
  refine sgo ?_
  refine T_cond rfl ?_ ?_ <;> intro h8
  · skip
    refine tx ?_
    refine sr 1 ?_
    refine sgo ?_
    refine tr1 hRb fun w hM => ?_
    exact ⟨by rw [headNo, if_neg (by rw [h3]; simp), if_t h8], hM.below⟩
  refine kgx ?_
  refine sr 1 ?_
  refine sgo ?_
  refine tr1 hRb fun w hM => ?_
  exact ⟨by rw [headNo, if_neg (by rw [h3]; simp), if_f h8], hM.below⟩
theorem Check_any (e : Evt) (w : World) (he : e.Ok w) :
    Calls Tryz.prog 6 #[e.val] w fun en w' => en = .returned (.int .i64 (evNo e)) ∧ Below w.heap.size w w' := by
  have hus := he.us
  refine enter_args (args := [.agg #[str e.id, .int .i64 e.at_, .int .i64 e.lv, .slice e.fa.A e.fa.q e.fa.c, .slice e.ta.A e.ta.q e.ta.c, .slice e.cr.A e.cr.q e.cr.c, str e.rel, str e.us, .int .i64 e.wt]]) (F := _) Tryz.func6 rfl Tryz.ntmps6 rfl rfl ?_
  intro Rb hRb hRn
  refine tx ?_
  refine S_box 1 1 rfl rfl rfl rfl rfl ?_
  intro b1
  refine sr 1 ?_
  refine sgs ?_
  refine tx ?_
  refine s1 (yA 1 rfl Tryz.underlying26 sz26) ?_
  refine s1 (y_call rfl rfl rfl cf20 (fun _ w _ => checkHead_any e w)) ?_
  refine sr 1 ?_
  refine sgx ?_
  refine sr 2 ?_
  refine sgo ?_
  refine T_cond rfl ?_ ?_ <;> intro h11
  · try simp only [nrm] at h11
    refine tx ?_
    refine sr 2 ?_
    refine sgo ?_
    refine tr1 hRb fun w hM => ?_
    exact ⟨by rw [evNo, fst_t h11], hM.below⟩
  try simp only [nrm] at h11
  refine kgs ?_
  refine tx ?_
  refine s1 (yF fa26_3) ?_
  refine s1 (yL 1 Tryz.underlying22) ?_
  refine s1 (y_call rfl rfl rfl cf21 (fun _ w hM => sCheck_any e.fa w (he.fa.below hM.below))) ?_
  refine sr 1 ?_
  refine sgx ?_
  refine sr 2 ?_
  refine sgo ?_
  refine T_cond rfl ?_ ?_ <;> intro h17
  · try simp only [nrm] at h17
    refine tx ?_
    refine sr 2 ?_
    refine sgo ?_
    refine tr1 hRb fun w hM => ?_
    exact ⟨by rw [evNo, fst_f h11, fst_t h17], hM.below⟩
  try simp only [nrm] at h17
  refine kgs ?_
  refine tx ?_
  refine s1 (yF fa26_4) ?_
  refine s1 (yL 1 Tryz.underlying23) ?_
  refine s1 (y_call rfl rfl rfl cf22 (fun _ w hM => checkTags_any e.ta w (he.ta.below hM.below))) ?_
  refine sr 1 ?_
  refine sgx ?_
  refine sr 2 ?_
  refine sgo ?_
  refine T_cond rfl ?_ ?_ <;> intro h23
  · try simp only [nrm] at h23
    refine tx ?_
    refine sr 2 ?_
    refine sgo ?_
    refine tr1 hRb fun w hM => ?_
    exact ⟨by rw [evNo, fst_f h11, fst_f h17, fst_t h23], hM.below⟩
  try simp only [nrm] at h23
  refine kgs ?_
  refine tx ?_
  refine s1 (yF fa26_5) ?_
  refine s1 (yL 1 Tryz.underlying24) ?_
  refine s1 (y_call rfl rfl rfl cf23 (fun _ w hM => checkCrumbs_any e.cr w (he.cr.below hM.below))) ?_
  refine sr 1 ?_
  refine sgx ?_
  refine sr 2 ?_
  refine sgo ?_
  refine T_cond rfl ?_ ?_ <;> intro h29
  · try simp only [nrm] at h29
    refine tx ?_
    refine sr 2 ?_
    refine sgo ?_
    refine tr1 hRb fun w hM => ?_
    exact ⟨by rw [evNo, fst_f h11, fst_f h17, fst_f h23, fst_t h29], hM.below⟩
  try simp only [nrm] at h29
  refine kgs ?_
  refine tx ?_
  refine s1 (yF fa26_6) ?_
  refine s1 (yL 1 Tryz.underlying9) ?_
  refine s1 (y_bin rfl rfl rfl (fun _ => b_neqs)) ?_
  refine sr 1 ?_
  refine sg rfl (yF fa26_6) ?_
  refine sg rfl (yL 1 Tryz.underlying9) ?_
  refine sg rfl (y_call rfl rfl rfl cf24 (fun _ w _ => IsName_any _ w)) ?_
  refine sg rfl (y_not rfl rfl) ?_
  refine s1 (y_and rfl rfl rfl) ?_
  refine sgo ?_
  refine T_cond rfl ?_ ?_ <;> intro h39
  · skip
    refine tx ?_
    refine sr 1 ?_
    refine sgo ?_
    refine tr1 hRb fun w hM => ?_
    exact ⟨by rw [evNo, fst_f h11, fst_f h17, fst_f h23, fst_f h29, if_t h39], hM.below⟩
  refine kgs ?_
  refine tx ?_
  refine s1 (yF fa26_7) ?_
  refine s1 (yL 1 Tryz.underlying9) ?_
  refine s1 (y_call rfl rfl rfl cf25 (fun _ w _ => checkValue_any _ (by first | omega | (simp; done) | (simp; omega) | (simp only; omega)) w)) ?_
  refine sr 1 ?_
  refine sgx ?_
  refine sr 2 ?_
  refine sgo ?_
  refine T_cond rfl ?_ ?_ <;> intro h44
  · try simp only [nrm] at h44
    refine tx ?_
    refine sr 2 ?_
    refine sgo ?_
    refine tr1 hRb fun w hM => ?_
    exact ⟨by rw [evNo, fst_f h11, fst_f h17, fst_f h23, fst_f h29, if_f h39, fst_t h44], hM.below⟩
  try simp only [nrm] at h44
  refine kgs ?_
  refine tx ?_
  refine s1 (yF fa26_8) ?_
  refine s1 (yL 1 Tryz.underlying3) ?_
  refine s1 (y_call rfl rfl rfl cf26 (fun _ w _ => eoutside_any _ _ _ w)) ?_
  refine sgo ?_
  refine T_cond rfl ?_ ?_ <;> intro h48
  · skip
    refine tx ?_
    refine sr 1 ?_
    refine sgo ?_
    refine tr1 hRb fun w hM => ?_
    exact ⟨by rw [evNo, fst_f h11, fst_f h17, fst_f h23, fst_f h29, if_f h39, fst_f h44, if_t h48], hM.below⟩
  refine kgx ?_
  refine sr 1 ?_
  refine sgo ?_
  refine tr1 hRb fun w hM => ?_
  exact ⟨by rw [evNo, fst_f h11, fst_f h17, fst_f h23, fst_f h29, if_f h39, fst_f h44, if_f h48], hM.below⟩
theorem EventFault_any (e : Evt) (w : World) (he : e.Ok w) :
    Calls Tryz.prog 14 #[e.val] w fun en w' => en = .returned (.int .i64 (evNo e)) ∧ Below w.heap.size w w' := by
  have hus := he.us
  have ht := he.ta.ok.t
  have hq := he.ta.q
  have hu := he.cr.ok.t
  have hr := he.cr.q
  refine enter_args (args := [.agg #[str e.id, .int .i64 e.at_, .int .i64 e.lv, .slice e.fa.A e.fa.q e.fa.c, .slice e.ta.A e.ta.q e.ta.c, .slice e.cr.A e.cr.q e.cr.c, str e.rel, str e.us, .int .i64 e.wt]]) (F := _) Tryz.func14 rfl Tryz.ntmps14 rfl rfl ?_
  intro Rb hRb hRn
  refine tx ?_
  refine S_box 1 1 rfl rfl rfl rfl rfl ?_
  intro b1
  refine sr 1 ?_
  refine sgs ?_
  refine tx ?_
  refine s1 (yA 1 rfl Tryz.underlying26 sz26) ?_
  refine s1 (y_call rfl rfl rfl cf46 (fun _ w _ => HeadFault_any e w)) ?_
  refine sr 1 ?_
  refine sgx ?_
  refine sr 2 ?_
  refine sgo ?_
  refine T_cond rfl ?_ ?_ <;> intro h15
  · try simp only [nrm] at h15
    refine tx ?_
    refine sr 2 ?_
    refine sgo ?_
    refine tr1 hRb fun w hM => ?_
    exact ⟨by rw [evNo, fst_t h15], hM.below⟩
  try simp only [nrm] at h15
  refine kgs ?_
  refine tx ?_
  refine s1 (yF fa26_3) ?_
  refine s1 (yL 1 Tryz.underlying22) ?_
  refine s1 (y_call rfl rfl rfl cf47 (fun _ w hM => FaultsFault_any e.fa w (he.fa.below hM.below))) ?_
  refine sr 1 ?_
  refine sgx ?_
  refine sr 2 ?_
  refine sgo ?_
  refine T_cond rfl ?_ ?_ <;> intro h21
  · try simp only [nrm] at h21
    refine tx ?_
    refine sr 2 ?_
    refine sgo ?_
    refine tr1 hRb fun w hM => ?_
    exact ⟨by rw [evNo, fst_f h15, fst_t h21], hM.below⟩
  try simp only [nrm] at h21
  refine kgs ?_
  refine tx ?_
  refine s1 (yF fa26_4) ?_
  refine s1 (yL 1 Tryz.underlying23) ?_
  refine s1 (y_len_slice rfl rfl Tryz.underlying23) ?_
  refine sr 1 ?_
  refine sgo ?_
  refine T_cond rfl ?_ ?_ <;> intro h26
  · try simp only [nrm] at h26
    refine tx ?_
    refine sr 1 ?_
    refine sgo ?_
    refine tr1 hRb fun w hM => ?_
    exact ⟨by rw [evNo, fst_f h15, fst_f h21, if_pos (by omega), fst_t (by decide)], hM.below⟩
  try simp only [nrm] at h26
  refine kgs ?_
  refine tx ?_
  refine s1 (yF fa26_4) ?_
  refine s1 (yL 1 Tryz.underlying23) ?_
  refine s1 (y_len_slice rfl rfl Tryz.underlying23) ?_
  refine sr 1 ?_
  refine sgo ?_
  refine T_block ?_
  refine lK2 (kf := [(2, 2), (5, 7), (30, 61)]) (kl := [(2, 2), (5, 7), (30, 61)]) (fun (i : Nat) (b : STag) => [(30, true, .int .i64 (i : Int))]) (fun (i : Nat) (b : STag) => []) (fun (i : Nat) (b : STag) => i ≤ e.ta.q ∧ tagsNo none e.ta.l = tagsNo (prevN i b) (e.ta.l.drop i) ∧ (0 < i → e.ta.l[i - 1]? = some b)) (fun (i : Nat) (b : STag) => e.ta.q - i) 0 ⟨[], []⟩ ?_ ?_ ?_ ?_
  · exact ⟨by omega, rfl, by omega⟩
  · exact ⟨rfl, trivial⟩
  · exact trivial
  rintro i b ⟨hp1, hp2, hp3⟩
  refine tx ?_
  refine sr 1 ?_
  refine sgs ?_
  refine T_cond rfl ?_ ?_ <;> intro h31
  · try simp only [nrm] at h31
    obtain ⟨x, hx1, hx2⟩ := ht.at (i := i) (by omega)
    have hn := he.ta.n x (mem_at hx1)
    have hn2 := hn.2
    refine kgs ?_
    refine T_block ?_
    refine tx ?_
    refine sr 1 ?_
    refine s1 (y_indexAddr rfl rfl rfl Tryz.underlying23 sz83 (fun hg => ht.isSome (by omega)) (fun _ => by omega)) ?_
    refine s1 (y_loadT rfl rfl ht (fun _ => rfl) (fun _ => hx1) Tryz.underlying83 rfl sz83) ?_
    refine S_alloc 6 6 rfl rfl rfl rfl z83 ?_
    intro b6
    refine sr 1 ?_
    refine S_store 6 rfl rfl rfl rfl rfl rfl sz83 rfl rfl ?_
    refine sgs ?_
    refine T_block ?_
    refine tx ?_
    refine s1 (yF fa83_0) ?_
    refine s1 (yL 6 Tryz.underlying9) ?_
    refine s1 (y_call rfl rfl rfl cf48 (fun _ w _ => NameOk_any _ w)) ?_
    refine sr 2 ?_
    refine sgo ?_
    refine T_cond rfl ?_ ?_ <;> intro h35
    · try simp only [nrm] at h35
      refine tx ?_
      refine sr 1 ?_
      refine sgo ?_
      refine tr1 hRb fun w hM => ?_
      exact ⟨by rw [evNo, fst_f h15, fst_f h21, if_neg (by omega), hp2, hx2, tagsNo, if_pos h35, fst_t (by decide)], hM.below⟩
    try simp only [nrm] at h35
    refine T_seq ?_
    refine T_draws (by kernel_rfl) (by kernel_rfl) ?_
    refine d1 (y_move rfl rfl) ?_
    refine d1 (y_bin rfl rfl rfl (fun _ => b_gtr)) ?_
    refine d1 (y_move rfl rfl) ?_
    refine dg rfl (yF fa83_0) ?_
    refine dg rfl (yL 6 Tryz.underlying9) ?_
    refine dg rfl (yF fa26_4) ?_
    refine dg rfl (yL 1 Tryz.underlying23) ?_
    refine dg rfl (y_move rfl rfl) ?_
    refine dg rfl (y_bin rfl rfl rfl (fun hg => b_subv (((i - 1 : Nat) : Int)) (by simp only [Bool.true_and, Bool.and_eq_true, beq_iff_eq, decide_eq_true_eq, decide_eq_false_iff_not, Int.not_lt, Int.not_le] at hg; omega) (by simp only [Bool.true_and, Bool.and_eq_true, beq_iff_eq, decide_eq_true_eq, decide_eq_false_iff_not, Int.not_lt, Int.not_le] at hg; omega))) ?_
    refine dg rfl (y_indexAddr rfl rfl rfl Tryz.underlying23 sz83 (fun hg => ht.isSome (by simp only [Bool.true_and, Bool.and_eq_true, beq_iff_eq, decide_eq_true_eq, decide_eq_false_iff_not, Int.not_lt, Int.not_le] at hg; omega)) (fun hg => by simp only [Bool.true_and, Bool.and_eq_true, beq_iff_eq, decide_eq_true_eq, decide_eq_false_iff_not, Int.not_lt, Int.not_le] at hg; omega)) ?_
    refine dg rfl (y_fieldEl rfl rfl ht.rd (fun hg => by simp only [Bool.true_and, Bool.and_eq_true, beq_iff_eq, decide_eq_true_eq, decide_eq_false_iff_not, Int.not_lt, Int.not_le] at hg; omega) fa83_0) ?_
    refine dg rfl (y_load_fT rfl rfl ht (fun _ => rfl) (fun hg => hp3 (by simp only [Bool.true_and, Bool.and_eq_true, beq_iff_eq, decide_eq_true_eq, decide_eq_false_iff_not, Int.not_lt, Int.not_le] at hg; omega)) rfl Tryz.underlying9 rfl) ?_
    refine dg rfl (y_bin rfl rfl rfl (fun _ => b_leqs)) ?_
    refine d1 (y_as (v' := .bool ((prevN i b).any fun s => Op.bytesLess x.n s || decide (x.n = s))) (by rw [prevN_any]) (y_and rfl rfl rfl)) ?_
    refine d1 (y_assign rfl rfl) ?_
    refine dgo ?_
    refine T_cond rfl ?_ ?_ <;> intro h40
    · skip
      refine tx ?_
      refine sr 1 ?_
      refine sgo ?_
      refine tr1 hRb fun w hM => ?_
      exact ⟨by rw [evNo, fst_f h15, fst_f h21, if_neg (by omega), hp2, hx2, tagsNo, if_neg (by rw [h35]; simp), if_t h40, fst_t (by decide)], hM.below⟩
    refine kgx ?_
    refine s1 (yF fa83_1) ?_
    refine s1 (yL 6 Tryz.underlying9) ?_
    refine s1 (y_call rfl rfl rfl cf49 (fun _ w _ => wordFault_any _ (by first | omega | (simp; done) | (simp; omega) | (simp only; omega)) w)) ?_
    refine sr 1 ?_
    refine sgx ?_
    refine sr 2 ?_
    refine sgo ?_
    refine T_cond rfl ?_ ?_ <;> intro h59
    · try simp only [nrm] at h59
      refine tx ?_
      refine sr 2 ?_
      refine sgo ?_
      refine tr1 hRb fun w hM => ?_
      exact ⟨by rw [evNo, fst_f h15, fst_f h21, if_neg (by omega), hp2, hx2, tagsNo, if_neg (by rw [h35]; simp), if_f h40, if_pos h59, fst_t h59], hM.below⟩
    try simp only [nrm] at h59
    refine kgr ?_
    refine s1 (y_bin rfl rfl rfl (fun hg => b_add (by omega))) ?_
    refine sr 1 ?_
    refine S_nil (nK2 (kf := [(2, 2), (5, 7), (30, 61)]) (kl := [(2, 2), (5, 7), (30, 61)]) (i + 1) x ?_ ?_ ?_ ?_)
    · omega
    · exact ⟨by omega, by rw [hp2, hx2, tagsNo, if_neg (by rw [h35]; simp), if_f h40, if_neg (by simpa using h59)]; rfl, fun _ => hx1⟩
    · exact ⟨rfl, trivial⟩
    · exact trivial
  try simp only [nrm] at h31
  have h23 : (if (40 : Int) < e.ta.q then 4 else tagsNo none e.ta.l) = 0 := by rw [if_neg (by omega), hp2, ht.end (by omega), tagsNo_nil]
  refine egs ?_
  refine tx ?_
  refine s1 (yF fa26_5) ?_
  refine s1 (yL 1 Tryz.underlying24) ?_
  refine s1 (y_len_slice rfl rfl Tryz.underlying24) ?_
  refine sr 1 ?_
  refine sgo ?_
  refine T_cond rfl ?_ ?_ <;> intro h65
  · try simp only [nrm] at h65
    refine tx ?_
    refine sr 1 ?_
    refine sgo ?_
    refine tr1 hRb fun w hM => ?_
    exact ⟨by rw [evNo, fst_f h15, fst_f h21, fst_f h23, if_pos (by omega), fst_t (by decide)], hM.below⟩
  try simp only [nrm] at h65
  refine kgs ?_
  refine tx ?_
  refine s1 (yF fa26_5) ?_
  refine s1 (yL 1 Tryz.underlying24) ?_
  refine s1 (y_len_slice rfl rfl Tryz.underlying24) ?_
  refine sr 1 ?_
  refine sgo ?_
  refine T_block ?_
  refine lK2 (kf := [(2, 2), (8, 10), (69, 104)]) (kl := [(2, 2), (8, 10), (69, 104)]) (fun (j : Nat) (d : SCrumb) => [(69, true, .int .i64 (j : Int))]) (fun (j : Nat) (d : SCrumb) => []) (fun (j : Nat) (d : SCrumb) => j ≤ e.cr.q ∧ crumbsNo none e.cr.l = crumbsNo (prevA j d) (e.cr.l.drop j) ∧ (0 < j → e.cr.l[j - 1]? = some d)) (fun (j : Nat) (d : SCrumb) => e.cr.q - j) 0 ⟨0, [], []⟩ ?_ ?_ ?_ ?_
  · exact ⟨by omega, rfl, by omega⟩
  · exact ⟨rfl, trivial⟩
  · exact trivial
  rintro j d ⟨hq1, hq2, hq3⟩
  refine tx ?_
  refine sr 1 ?_
  refine sgs ?_
  refine T_cond rfl ?_ ?_ <;> intro h70
  · try simp only [nrm] at h70
    obtain ⟨y, hy1, hy2⟩ := hu.at (i := j) (by omega)
    have hm := he.cr.n y (mem_at hy1)
    have hm2 := hm.2
    refine kgs ?_
    refine T_block ?_
    refine tx ?_
    refine sr 1 ?_
    refine s1 (y_indexAddr rfl rfl rfl Tryz.underlying24 sz85 (fun hg => hu.isSome (by omega)) (fun _ => by omega)) ?_
    refine s1 (y_loadT rfl rfl hu (fun _ => rfl) (fun _ => hy1) Tryz.underlying85 rfl sz85) ?_
    refine S_alloc 9 9 rfl rfl rfl rfl z85 ?_
    intro b9
    refine sr 1 ?_
    refine S_store 9 rfl rfl rfl rfl rfl rfl sz85 rfl rfl ?_
    refine sgs ?_
    refine T_block ?_
    refine tx ?_
    refine s1 (yF fa85_0) ?_
    refine s1 (yL 9 Tryz.underlying3) ?_
    refine s1 (y_call rfl rfl rfl cf50 (fun _ w _ => out_any _ _ _ w)) ?_
    refine sr 1 ?_
    refine sgo ?_
    refine T_cond rfl ?_ ?_ <;> intro h74
    · skip
      refine tx ?_
      refine sr 1 ?_
      refine sgo ?_
      refine tr1 hRb fun w hM => ?_
      exact ⟨by rw [evNo, fst_f h15, fst_f h21, fst_f h23, if_neg (by omega), hq2, hy2, crumbsNo, if_t h74, fst_t (by decide)], hM.below⟩
    refine T_seq ?_
    refine T_draws (by kernel_rfl) (by kernel_rfl) ?_
    refine d1 (y_move rfl rfl) ?_
    refine d1 (y_bin rfl rfl rfl (fun _ => b_gtr)) ?_
    refine d1 (y_move rfl rfl) ?_
    refine dg rfl (yF fa85_0) ?_
    refine dg rfl (yL 9 Tryz.underlying3) ?_
    refine dg rfl (yF fa26_5) ?_
    refine dg rfl (yL 1 Tryz.underlying24) ?_
    refine dg rfl (y_move rfl rfl) ?_
    refine dg rfl (y_bin rfl rfl rfl (fun hg => b_subv (((j - 1 : Nat) : Int)) (by simp only [Bool.true_and, Bool.and_eq_true, beq_iff_eq, decide_eq_true_eq, decide_eq_false_iff_not, Int.not_lt, Int.not_le] at hg; omega) (by simp only [Bool.true_and, Bool.and_eq_true, beq_iff_eq, decide_eq_true_eq, decide_eq_false_iff_not, Int.not_lt, Int.not_le] at hg; omega))) ?_
    refine dg rfl (y_indexAddr rfl rfl rfl Tryz.underlying24 sz85 (fun hg => hu.isSome (by simp only [Bool.true_and, Bool.and_eq_true, beq_iff_eq, decide_eq_true_eq, decide_eq_false_iff_not, Int.not_lt, Int.not_le] at hg; omega)) (fun hg => by simp only [Bool.true_and, Bool.and_eq_true, beq_iff_eq, decide_eq_true_eq, decide_eq_false_iff_not, Int.not_lt, Int.not_le] at hg; omega)) ?_
    refine dg rfl (y_fieldEl rfl rfl hu.rd (fun hg => by simp only [Bool.true_and, Bool.and_eq_true, beq_iff_eq, decide_eq_true_eq, decide_eq_false_iff_not, Int.not_lt, Int.not_le] at hg; omega) fa85_0) ?_
    refine dg rfl (y_load_fT rfl rfl hu (fun _ => rfl) (fun hg => hq3 (by simp only [Bool.true_and, Bool.and_eq_true, beq_iff_eq, decide_eq_true_eq, decide_eq_false_iff_not, Int.not_lt, Int.not_le] at hg; omega)) rfl Tryz.underlying3 rfl) ?_
    refine dg rfl (y_bin rfl rfl rfl (fun _ => b_lss)) ?_
    refine d1 (y_as (v' := .bool ((prevA j d).any fun n => decide (y.at_ < n))) (by rw [prevA_any]) (y_and rfl rfl rfl)) ?_
    refine d1 (y_assign rfl rfl) ?_
    refine dgo ?_
    refine T_cond rfl ?_ ?_ <;> intro h78
    · skip
      refine tx ?_
      refine sr 1 ?_
      refine sgo ?_
      refine tr1 hRb fun w hM => ?_
      exact ⟨by rw [evNo, fst_f h15, fst_f h21, fst_f h23, if_neg (by omega), hq2, hy2, crumbsNo, if_f h74, if_t h78, fst_t (by decide)], hM.below⟩
    refine tx ?_
    refine s1 (yF fa85_1) ?_
    refine s1 (yL 9 Tryz.underlying9) ?_
    refine s1 (y_call rfl rfl rfl cf48 (fun _ w _ => NameOk_any _ w)) ?_
    refine sr 2 ?_
    refine sgo ?_
    refine T_cond rfl ?_ ?_ <;> intro h93
    · try simp only [nrm] at h93
      refine tx ?_
      refine sr 1 ?_
      refine sgo ?_
      refine tr1 hRb fun w hM => ?_
      exact ⟨by rw [evNo, fst_f h15, fst_f h21, fst_f h23, if_neg (by omega), hq2, hy2, crumbsNo, if_f h74, if_f h78, if_pos h93, fst_t (by decide)], hM.below⟩
    try simp only [nrm] at h93
    refine kgx ?_
    refine s1 (yF fa85_2) ?_
    refine s1 (yL 9 Tryz.underlying9) ?_
    refine s1 (y_call rfl rfl rfl cf51 (fun _ w _ => sayFault_any _ (by first | omega | (simp; done) | (simp; omega) | (simp only; omega)) w)) ?_
    refine sr 1 ?_
    refine sgx ?_
    refine sr 2 ?_
    refine sgo ?_
    refine T_cond rfl ?_ ?_ <;> intro h102
    · try simp only [nrm] at h102
      refine tx ?_
      refine sr 2 ?_
      refine sgo ?_
      refine tr1 hRb fun w hM => ?_
      exact ⟨by rw [evNo, fst_f h15, fst_f h21, fst_f h23, if_neg (by omega), hq2, hy2, crumbsNo, if_f h74, if_f h78, if_neg (by rw [h93]; simp), if_pos h102, fst_t h102], hM.below⟩
    try simp only [nrm] at h102
    refine kgr ?_
    refine s1 (y_bin rfl rfl rfl (fun hg => b_add (by omega))) ?_
    refine sr 1 ?_
    refine S_nil (nK2 (kf := [(2, 2), (8, 10), (69, 104)]) (kl := [(2, 2), (8, 10), (69, 104)]) (j + 1) y ?_ ?_ ?_ ?_)
    · omega
    · exact ⟨by omega, by rw [hq2, hy2, crumbsNo, if_f h74, if_f h78, if_neg (by rw [h93]; simp), if_neg (by simpa using h102)]; rfl, fun _ => hy1⟩
    · exact ⟨rfl, trivial⟩
    · exact trivial
  try simp only [nrm] at h70
  have h29 : (if (50 : Int) < e.cr.q then 4 else crumbsNo none e.cr.l) = 0 := by rw [if_neg (by omega), hq2, hu.end (by omega), crumbsNo_nil]
  refine egs ?_
  refine tx ?_
  refine s1 (yF fa26_6) ?_
  refine s1 (yL 1 Tryz.underlying9) ?_
  refine s1 (y_bin rfl rfl rfl (fun _ => b_neqs)) ?_
  refine sr 1 ?_
  refine sg rfl (yF fa26_6) ?_
  refine sg rfl (yL 1 Tryz.underlying9) ?_
  refine sg rfl (y_call rfl rfl rfl cf48 (fun _ w _ => NameOk_any _ w)) ?_
  refine sg rfl (y_not rfl rfl) ?_
  refine s1 (y_and rfl rfl rfl) ?_
  refine sgo ?_
  refine T_cond rfl ?_ ?_ <;> intro h113
  · skip
    refine tx ?_
    refine sr 1 ?_
    refine sgo ?_
    refine tr1 hRb fun w hM => ?_
    exact ⟨by rw [evNo, fst_f h15, fst_f h21, fst_f h23, fst_f h29, if_t h113], hM.below⟩
  refine kgs ?_
  refine tx ?_
  refine s1 (yF fa26_7) ?_
  refine s1 (yL 1 Tryz.underlying9) ?_
  refine s1 (y_call rfl rfl rfl cf49 (fun _ w _ => wordFault_any _ (by first | omega | (simp; done) | (simp; omega) | (simp only; omega)) w)) ?_
  refine sr 1 ?_
  refine sgx ?_
  refine sr 2 ?_
  refine sgo ?_
  refine T_cond rfl ?_ ?_ <;> intro h118
  · try simp only [nrm] at h118
    refine tx ?_
    refine sr 2 ?_
    refine sgo ?_
    refine tr1 hRb fun w hM => ?_
    exact ⟨by rw [evNo, fst_f h15, fst_f h21, fst_f h23, fst_f h29, if_f h113, fst_t h118], hM.below⟩
  try simp only [nrm] at h118
  refine kgs ?_
  refine tx ?_
  refine s1 (yF fa26_8) ?_
  refine s1 (yL 1 Tryz.underlying3) ?_
  refine s1 (y_call rfl rfl rfl cf50 (fun _ w _ => out_any _ _ _ w)) ?_
  refine sgo ?_
  refine T_cond rfl ?_ ?_ <;> intro h122
  · skip
    refine tx ?_
    refine sr 1 ?_
    refine sgo ?_
    refine tr1 hRb fun w hM => ?_
    exact ⟨by rw [evNo, fst_f h15, fst_f h21, fst_f h23, fst_f h29, if_f h113, fst_f h118, if_t h122], hM.below⟩
  refine kgx ?_
  refine sr 1 ?_
  refine sgo ?_
  refine tr1 hRb fun w hM => ?_
  exact ⟨by rw [evNo, fst_f h15, fst_f h21, fst_f h23, fst_f h29, if_f h113, fst_f h118, if_f h122], hM.below⟩
end Go.Proofs.YtgbldojgbpgjbaaGreatDoor
end
section
namespace Go.Proofs.YtgbldojgbpgjbaaGreatDoor
set_option linter.unusedSimpArgs false
set_option linter.unusedVariables false
set_option maxRecDepth 20000
open Go.RowKit Go.Eng
def Frm.eqB (a b : Frm) : Bool := decide (a.m = b.m) && (decide (a.f = b.f) && (decide (a.fi = b.fi) && (decide (a.ln = b.ln) && (decide (a.ad = b.ad) && (a.own == b.own)))))
theorem Frm.eqB_iff (a b : Frm) : Frm.eqB a b = true ↔ a = b := by cases a; cases b; simp [Frm.eqB]
def STag.eqB (a b : STag) : Bool := decide (a.n = b.n) && decide (a.v = b.v)
theorem STag.eqB_iff (a b : STag) : STag.eqB a b = true ↔ a = b := by cases a; cases b; simp [STag.eqB]
def SCrumb.eqB (a b : SCrumb) : Bool := decide (a.at_ = b.at_) && (decide (a.k = b.k) && decide (a.t = b.t))
theorem SCrumb.eqB_iff (a b : SCrumb) : SCrumb.eqB a b = true ↔ a = b := by cases a; cases b; simp [SCrumb.eqB]
def strE (l : List UInt8) : List Value := [str l]
theorem EqualFr_any (A B : Option Addr) (q c p d : Nat) (l m : List (Frm)) (w : World) (hl : SlT Frm.enc 6 w A q l) (hm : SlT Frm.enc 6 w B p m) (hq : q ≤ 4611686018427387904) (hp : p ≤ 4611686018427387904) :
    Calls Tryz.prog 86 #[.slice A q c, .slice B p d] w fun e w' => e = .returned (.bool (eqLB Frm.eqB l m)) ∧ Below w.heap.size w w' := by
  have hlen := hl.len
  have hmen := hm.len
  refine enter_args (args := [.slice A q c, .slice B p d]) (F := _) Tryz.func86 rfl Tryz.ntmps86 rfl rfl ?_
  intro Rb hRb hRn
  refine tx ?_
  refine sr 1 ?_
  refine sgs ?_
  refine tx ?_
  refine sr 1 ?_
  refine s1 (y_len_slice rfl rfl Tryz.underlying32) ?_
  refine sr 1 ?_
  refine s1 (y_len_slice rfl rfl Tryz.underlying32) ?_
  refine sr 1 ?_
  refine sgo ?_
  refine T_cond rfl ?_ ?_ <;> intro h10
  · try simp only [nrm] at h10
    refine tx ?_
    refine sr 1 ?_
    refine sgo ?_
    refine tr1 hRb fun w hM => ?_
    exact ⟨by rw [eqLB_len l m (by omega)], hM.below⟩
  try simp only [nrm] at h10
  refine kgs ?_
  refine tx ?_
  refine sr 1 ?_
  refine s1 (y_len_slice rfl rfl Tryz.underlying32) ?_
  refine sr 1 ?_
  refine sgo ?_
  refine T_block ?_
  refine lK1 (kf := [(4, 5), (13, 25)]) (kl := [(4, 5), (13, 25)]) (fun (i : Nat) => [(13, true, .int .i64 (i : Int))]) (fun (i : Nat) => []) (fun (i : Nat) => i ≤ q ∧ eqLB Frm.eqB l m = eqLB Frm.eqB (l.drop i) (m.drop i)) (fun (i : Nat) => q - i) 0 ?_ ?_ ?_ ?_
  · exact ⟨by omega, rfl⟩
  · exact ⟨rfl, trivial⟩
  · exact trivial
  rintro i ⟨hp1, hp2⟩
  refine tx ?_
  refine sr 1 ?_
  refine sgs ?_
  refine T_cond rfl ?_ ?_ <;> intro h14
  · try simp only [nrm] at h14
    obtain ⟨a, hx1, hx2⟩ := hl.at (i := i) (by omega)
    obtain ⟨b, hy1, hy2⟩ := hm.at (i := i) (by omega)
    refine kgs ?_
    refine T_block ?_
    refine tx ?_
    refine sr 2 ?_
    refine sgs ?_
    refine T_draws (by kernel_rfl) (by kernel_rfl) ?_
    refine d1 (y_move rfl rfl) ?_
    refine d1 (y_move rfl rfl) ?_
    refine d1 (y_indexAddr rfl rfl rfl Tryz.underlying32 sz45 (fun hg => hl.isSome (by omega)) (fun _ => by omega)) ?_
    refine d1 (y_loadT rfl rfl hl (fun _ => rfl) (fun _ => hx1) Tryz.underlying45 rfl sz45) ?_
    refine d1 (y_move rfl rfl) ?_
    refine d1 (y_move rfl rfl) ?_
    refine d1 (y_indexAddr rfl rfl rfl Tryz.underlying32 sz45 (fun hg => hm.isSome (by omega)) (fun _ => by omega)) ?_
    refine d1 (y_loadT rfl rfl hm (fun _ => rfl) (fun _ => hy1) Tryz.underlying45 rfl sz45) ?_
    refine d1 (y_as (v' := .bool (!(Frm.eqB a b))) (by simp [Frm.eqB, str]) (y_bin rfl rfl rfl (fun _ => b_neqA (rs := [_, _, _, _, _, _]) Tryz.underlying45 (by kernel_rfl) (by kernel_rfl) ⟨by decide, ⟨_, Tryz.underlying9, rfl, _, _, rfl, rfl, rfl⟩, by decide, ⟨_, Tryz.underlying9, rfl, _, _, rfl, rfl, rfl⟩, by decide, ⟨_, Tryz.underlying9, rfl, _, _, rfl, rfl, rfl⟩, by decide, ⟨_, Tryz.underlying3, rfl, _, _, rfl, rfl, rfl⟩, by decide, ⟨_, Tryz.underlying3, rfl, _, _, rfl, rfl, rfl⟩, by decide, ⟨_, Tryz.underlying4, rfl, _, _, rfl, rfl, rfl⟩, trivial⟩))) ?_
    refine dgo ?_
    refine T_cond rfl ?_ ?_ <;> intro h24
    · skip
      have h24e : Frm.eqB a b = false := by simpa using h24
      refine tx ?_
      refine sr 1 ?_
      refine sgo ?_
      refine tr1 hRb fun w hM => ?_
      exact ⟨by rw [hp2, hx2, hy2, eqLB, h24e, Bool.false_and], hM.below⟩
    have h24e : Frm.eqB a b = true := by simpa using h24
    refine kgr ?_
    refine s1 (y_bin rfl rfl rfl (fun hg => b_add (by omega))) ?_
    refine sr 1 ?_
    refine S_nil (nK1 (kf := [(4, 5), (13, 25)]) (kl := [(4, 5), (13, 25)]) (i + 1) ?_ ?_ ?_ ?_)
    · omega
    · exact ⟨by omega, by rw [hp2, hx2, hy2, eqLB, h24e, Bool.true_and]⟩
    · exact ⟨rfl, trivial⟩
    · exact trivial
  try simp only [nrm] at h14
  refine egx ?_
  refine sr 1 ?_
  refine sgo ?_
  refine tr1 hRb fun w hM => ?_
  exact ⟨by rw [hp2, hl.end (by omega), hm.end (by omega)]; rfl, hM.below⟩
theorem EqualTg_any (A B : Option Addr) (q c p d : Nat) (l m : List (STag)) (w : World) (hl : SlT STag.enc 2 w A q l) (hm : SlT STag.enc 2 w B p m) (hq : q ≤ 4611686018427387904) (hp : p ≤ 4611686018427387904) :
    Calls Tryz.prog 40 #[.slice A q c, .slice B p d] w fun e w' => e = .returned (.bool (eqLB STag.eqB l m)) ∧ Below w.heap.size w w' := by
  have hlen := hl.len
  have hmen := hm.len
  refine enter_args (args := [.slice A q c, .slice B p d]) (F := _) Tryz.func40 rfl Tryz.ntmps40 rfl rfl ?_
  intro Rb hRb hRn
  refine tx ?_
  refine sr 1 ?_
  refine sgs ?_
  refine tx ?_
  refine sr 1 ?_
  refine s1 (y_len_slice rfl rfl Tryz.underlying23) ?_
  refine sr 1 ?_
  refine s1 (y_len_slice rfl rfl Tryz.underlying23) ?_
  refine sr 1 ?_
  refine sgo ?_
  refine T_cond rfl ?_ ?_ <;> intro h10
  · try simp only [nrm] at h10
    refine tx ?_
    refine sr 1 ?_
    refine sgo ?_
    refine tr1 hRb fun w hM => ?_
    exact ⟨by rw [eqLB_len l m (by omega)], hM.below⟩
  try simp only [nrm] at h10
  refine kgs ?_
  refine tx ?_
  refine sr 1 ?_
  refine s1 (y_len_slice rfl rfl Tryz.underlying23) ?_
  refine sr 1 ?_
  refine sgo ?_
  refine T_block ?_
  refine lK1 (kf := [(4, 5), (13, 25)]) (kl := [(4, 5), (13, 25)]) (fun (i : Nat) => [(13, true, .int .i64 (i : Int))]) (fun (i : Nat) => []) (fun (i : Nat) => i ≤ q ∧ eqLB STag.eqB l m = eqLB STag.eqB (l.drop i) (m.drop i)) (fun (i : Nat) => q - i) 0 ?_ ?_ ?_ ?_
  · exact ⟨by omega, rfl⟩
  · exact ⟨rfl, trivial⟩
  · exact trivial
  rintro i ⟨hp1, hp2⟩
  refine tx ?_
  refine sr 1 ?_
  refine sgs ?_
  refine T_cond rfl ?_ ?_ <;> intro h14
  · try simp only [nrm] at h14
    obtain ⟨a, hx1, hx2⟩ := hl.at (i := i) (by omega)
    obtain ⟨b, hy1, hy2⟩ := hm.at (i := i) (by omega)
    refine kgs ?_
    refine T_block ?_
    refine tx ?_
    refine sr 2 ?_
    refine sgs ?_
    refine T_draws (by kernel_rfl) (by kernel_rfl) ?_
    refine d1 (y_move rfl rfl) ?_
    refine d1 (y_move rfl rfl) ?_
    refine d1 (y_indexAddr rfl rfl rfl Tryz.underlying23 sz83 (fun hg => hl.isSome (by omega)) (fun _ => by omega)) ?_
    refine d1 (y_loadT rfl rfl hl (fun _ => rfl) (fun _ => hx1) Tryz.underlying83 rfl sz83) ?_
    refine d1 (y_move rfl rfl) ?_
    refine d1 (y_move rfl rfl) ?_
    refine d1 (y_indexAddr rfl rfl rfl Tryz.underlying23 sz83 (fun hg => hm.isSome (by omega)) (fun _ => by omega)) ?_
    refine d1 (y_loadT rfl rfl hm (fun _ => rfl) (fun _ => hy1) Tryz.underlying83 rfl sz83) ?_
    refine d1 (y_as (v' := .bool (!(STag.eqB a b))) (by simp [STag.eqB, str]) (y_bin rfl rfl rfl (fun _ => b_neqA (rs := [_, _]) Tryz.underlying83 (by kernel_rfl) (by kernel_rfl) ⟨by decide, ⟨_, Tryz.underlying9, rfl, _, _, rfl, rfl, rfl⟩, by decide, ⟨_, Tryz.underlying9, rfl, _, _, rfl, rfl, rfl⟩, trivial⟩))) ?_
    refine dgo ?_
    refine T_cond rfl ?_ ?_ <;> intro h24
    · skip
      have h24e : STag.eqB a b = false := by simpa using h24
      refine tx ?_
      refine sr 1 ?_
      refine sgo ?_
      refine tr1 hRb fun w hM => ?_
      exact ⟨by rw [hp2, hx2, hy2, eqLB, h24e, Bool.false_and], hM.below⟩
    have h24e : STag.eqB a b = true := by simpa using h24
    refine kgr ?_
    refine s1 (y_bin rfl rfl rfl (fun hg => b_add (by omega))) ?_
    refine sr 1 ?_
    refine S_nil (nK1 (kf := [(4, 5), (13, 25)]) (kl := [(4, 5), (13, 25)]) (i + 1) ?_ ?_ ?_ ?_)
    · omega
    · exact ⟨by omega, by rw [hp2, hx2, hy2, eqLB, h24e, Bool.true_and]⟩
    · exact ⟨rfl, trivial⟩
    · exact trivial
  try simp only [nrm] at h14
  refine egx ?_
  refine sr 1 ?_
  refine sgo ?_
  refine tr1 hRb fun w hM => ?_
  exact ⟨by rw [hp2, hl.end (by omega), hm.end (by omega)]; rfl, hM.below⟩
theorem EqualCr_any (A B : Option Addr) (q c p d : Nat) (l m : List (SCrumb)) (w : World) (hl : SlT SCrumb.enc 3 w A q l) (hm : SlT SCrumb.enc 3 w B p m) (hq : q ≤ 4611686018427387904) (hp : p ≤ 4611686018427387904) :
    Calls Tryz.prog 41 #[.slice A q c, .slice B p d] w fun e w' => e = .returned (.bool (eqLB SCrumb.eqB l m)) ∧ Below w.heap.size w w' := by
  have hlen := hl.len
  have hmen := hm.len
  refine enter_args (args := [.slice A q c, .slice B p d]) (F := _) Tryz.func41 rfl Tryz.ntmps41 rfl rfl ?_
  intro Rb hRb hRn
  refine tx ?_
  refine sr 1 ?_
  refine sgs ?_
  refine tx ?_
  refine sr 1 ?_
  refine s1 (y_len_slice rfl rfl Tryz.underlying24) ?_
  refine sr 1 ?_
  refine s1 (y_len_slice rfl rfl Tryz.underlying24) ?_
  refine sr 1 ?_
  refine sgo ?_
  refine T_cond rfl ?_ ?_ <;> intro h10
  · try simp only [nrm] at h10
    refine tx ?_
    refine sr 1 ?_
    refine sgo ?_
    refine tr1 hRb fun w hM => ?_
    exact ⟨by rw [eqLB_len l m (by omega)], hM.below⟩
  try simp only [nrm] at h10
  refine kgs ?_
  refine tx ?_
  refine sr 1 ?_
  refine s1 (y_len_slice rfl rfl Tryz.underlying24) ?_
  refine sr 1 ?_
  refine sgo ?_
  refine T_block ?_
  refine lK1 (kf := [(4, 5), (13, 25)]) (kl := [(4, 5), (13, 25)]) (fun (i : Nat) => [(13, true, .int .i64 (i : Int))]) (fun (i : Nat) => []) (fun (i : Nat) => i ≤ q ∧ eqLB SCrumb.eqB l m = eqLB SCrumb.eqB (l.drop i) (m.drop i)) (fun (i : Nat) => q - i) 0 ?_ ?_ ?_ ?_
  · exact ⟨by omega, rfl⟩
  · exact ⟨rfl, trivial⟩
  · exact trivial
  rintro i ⟨hp1, hp2⟩
  refine tx ?_
  refine sr 1 ?_
  refine sgs ?_
  refine T_cond rfl ?_ ?_ <;> intro h14
  · try simp only [nrm] at h14
    obtain ⟨a, hx1, hx2⟩ := hl.at (i := i) (by omega)
    obtain ⟨b, hy1, hy2⟩ := hm.at (i := i) (by omega)
    refine kgs ?_
    refine T_block ?_
    refine tx ?_
    refine sr 2 ?_
    refine sgs ?_
    refine T_draws (by kernel_rfl) (by kernel_rfl) ?_
    refine d1 (y_move rfl rfl) ?_
    refine d1 (y_move rfl rfl) ?_
    refine d1 (y_indexAddr rfl rfl rfl Tryz.underlying24 sz85 (fun hg => hl.isSome (by omega)) (fun _ => by omega)) ?_
    refine d1 (y_loadT rfl rfl hl (fun _ => rfl) (fun _ => hx1) Tryz.underlying85 rfl sz85) ?_
    refine d1 (y_move rfl rfl) ?_
    refine d1 (y_move rfl rfl) ?_
    refine d1 (y_indexAddr rfl rfl rfl Tryz.underlying24 sz85 (fun hg => hm.isSome (by omega)) (fun _ => by omega)) ?_
    refine d1 (y_loadT rfl rfl hm (fun _ => rfl) (fun _ => hy1) Tryz.underlying85 rfl sz85) ?_
    refine d1 (y_as (v' := .bool (!(SCrumb.eqB a b))) (by simp [SCrumb.eqB, str]) (y_bin rfl rfl rfl (fun _ => b_neqA (rs := [_, _, _]) Tryz.underlying85 (by kernel_rfl) (by kernel_rfl) ⟨by decide, ⟨_, Tryz.underlying3, rfl, _, _, rfl, rfl, rfl⟩, by decide, ⟨_, Tryz.underlying9, rfl, _, _, rfl, rfl, rfl⟩, by decide, ⟨_, Tryz.underlying9, rfl, _, _, rfl, rfl, rfl⟩, trivial⟩))) ?_
    refine dgo ?_
    refine T_cond rfl ?_ ?_ <;> intro h24
    · skip
      have h24e : SCrumb.eqB a b = false := by simpa using h24
      refine tx ?_
      refine sr 1 ?_
      refine sgo ?_
      refine tr1 hRb fun w hM => ?_
      exact ⟨by rw [hp2, hx2, hy2, eqLB, h24e, Bool.false_and], hM.below⟩
    have h24e : SCrumb.eqB a b = true := by simpa using h24
    refine kgr ?_
    refine s1 (y_bin rfl rfl rfl (fun hg => b_add (by omega))) ?_
    refine sr 1 ?_
    refine S_nil (nK1 (kf := [(4, 5), (13, 25)]) (kl := [(4, 5), (13, 25)]) (i + 1) ?_ ?_ ?_ ?_)
    · omega
    · exact ⟨by omega, by rw [hp2, hx2, hy2, eqLB, h24e, Bool.true_and]⟩
    · exact ⟨rfl, trivial⟩
    · exact trivial
  try simp only [nrm] at h14
  refine egx ?_
  refine sr 1 ?_
  refine sgo ?_
  refine tr1 hRb fun w hM => ?_
  exact ⟨by rw [hp2, hl.end (by omega), hm.end (by omega)]; rfl, hM.below⟩
def Flt.eqB (x y : Flt) : Bool := decide (x.k = y.k) && decide (x.t = y.t) && eqLB Frm.eqB x.fr.l y.fr.l
theorem SameFault_any (x y : Flt) (w : World) (hx : FltOk w x) (hy : FltOk w y) :
    Calls Tryz.prog 140 #[x.val, y.val] w fun e w' => e = .returned (.bool (Flt.eqB x y)) ∧ Below w.heap.size w w' := by
  have hxq := hx.fr.q
  have hyq := hy.fr.q
  refine enter_args (args := [.agg #[str x.k, str x.t, .slice x.fr.A x.fr.q x.fr.c], .agg #[str y.k, str y.t, .slice y.fr.A y.fr.q y.fr.c]]) (F := _) Tryz.func140 rfl Tryz.ntmps140 rfl rfl ?_
  intro Rb hRb hRn
  refine tx ?_
  refine S_box 2 2 rfl rfl rfl rfl rfl ?_
  intro b2
  refine S_box 3 3 rfl rfl rfl rfl rfl ?_
  intro b3
  refine sr 1 ?_
  refine sgx ?_
  refine s1 (yF fa36_0) ?_
  refine s1 (yL 2 Tryz.underlying9) ?_
  refine s1 (yF fa36_0) ?_
  refine s1 (yL 3 Tryz.underlying9) ?_
  refine s1 (y_bin rfl rfl rfl (fun _ => b_eqls)) ?_
  refine sr 1 ?_
  refine sg rfl (yF fa36_1) ?_
  refine sg rfl (yL 2 Tryz.underlying9) ?_
  refine sg rfl (yF fa36_1) ?_
  refine sg rfl (yL 3 Tryz.underlying9) ?_
  refine sg rfl (y_bin rfl rfl rfl (fun _ => b_eqls)) ?_
  refine s1 (y_and rfl rfl rfl) ?_
  refine sr 1 ?_
  refine sg rfl (yF fa36_2) ?_
  refine sg rfl (yL 2 Tryz.underlying32) ?_
  refine sg rfl (yF fa36_2) ?_
  refine sg rfl (yL 3 Tryz.underlying32) ?_
  refine sg rfl (y_call rfl rfl rfl cf86 (fun _ w hM => EqualFr_any _ _ _ _ _ _ _ _ w (hx.fr.ok.t.below hM.below) (hy.fr.ok.t.below hM.below) hxq hyq)) ?_
  refine s1 (y_and rfl rfl rfl) ?_
  refine sr 1 ?_
  refine sgo ?_
  refine tr1 hRb fun w hM => ?_
  exact ⟨rfl, hM.below⟩
theorem EqualFuncFlt_any (l m : Sl Flt) (g : FuncId) (cap : Array Value) (w : World) (hl : FltsOk w l) (hm : FltsOk w m) (hcf : ∀ args w, (callFunc g args).run Tryz.prog w = .ok (.enter g args) w)
    (hA : ∀ x y w', Below w.heap.size w w' → FltOk w' x → FltOk w' y → Calls Tryz.prog g (#[x.val, y.val] ++ cap) w' fun e w'' => e = .returned (.bool (Flt.eqB x y)) ∧ Below w'.heap.size w' w'') :
    Calls Tryz.prog 84 #[.slice l.A l.q l.c, .slice m.A m.q m.c, .func (.func g) #[] cap] w fun e w' => e = .returned (.bool (eqLB Flt.eqB l.l m.l)) ∧ Below w.heap.size w w' := by
  have ht := hl.ok.t
  have hu := hm.ok.t
  have hq := hl.q
  have hp := hm.q
  have hlen := ht.len
  have hmen := hu.len
  refine enter_args (args := [.slice l.A l.q l.c, .slice m.A m.q m.c, .func (.func g) #[] cap]) (F := _) Tryz.func84 rfl Tryz.ntmps84 rfl rfl ?_
  intro Rb hRb hRn
  refine tx ?_
  refine sr 1 ?_
  refine sgs ?_
  refine tx ?_
  refine sr 1 ?_
  refine s1 (y_len_slice rfl rfl Tryz.underlying22) ?_
  refine sr 1 ?_
  refine s1 (y_len_slice rfl rfl Tryz.underlying22) ?_
  refine sr 1 ?_
  refine sgo ?_
  refine T_cond rfl ?_ ?_ <;> intro h14
  · try simp only [nrm] at h14
    refine tx ?_
    refine sr 1 ?_
    refine sgo ?_
    refine tr1 hRb fun w hM => ?_
    exact ⟨by rw [eqLB_len l.l m.l (by omega)], hM.below⟩
  try simp only [nrm] at h14
  refine kgs ?_
  refine tx ?_
  refine sr 1 ?_
  refine s1 (y_len_slice rfl rfl Tryz.underlying22) ?_
  refine sr 1 ?_
  refine sgo ?_
  refine T_block ?_
  refine lK1 (kf := [(6, 9), (17, 31)]) (kl := [(6, 9), (17, 31)]) (fun (i : Nat) => [(17, true, .int .i64 (i : Int))]) (fun (i : Nat) => []) (fun (i : Nat) => i ≤ l.q ∧ eqLB Flt.eqB l.l m.l = eqLB Flt.eqB (l.l.drop i) (m.l.drop i)) (fun (i : Nat) => l.q - i) 0 ?_ ?_ ?_ ?_
  · exact ⟨by omega, rfl⟩
  · exact ⟨rfl, trivial⟩
  · exact trivial
  rintro i ⟨hp1, hp2⟩
  refine tx ?_
  refine sr 1 ?_
  refine sgs ?_
  refine T_cond rfl ?_ ?_ <;> intro h18
  · try simp only [nrm] at h18
    obtain ⟨x, hx1, hx2⟩ := ht.at (i := i) (by omega)
    obtain ⟨y, hy1, hy2⟩ := hu.at (i := i) (by omega)
    refine kgs ?_
    refine T_block ?_
    refine tx ?_
    refine sr 1 ?_
    refine s1 (y_indexAddr rfl rfl rfl Tryz.underlying22 sz36 (fun hg => ht.isSome (by omega)) (fun _ => by omega)) ?_
    refine s1 (y_loadT rfl rfl ht (fun _ => rfl) (fun _ => hx1) Tryz.underlying36 rfl sz36) ?_
    refine S_alloc 8 8 rfl rfl rfl rfl z36 ?_
    intro b8
    refine sr 1 ?_
    refine S_store 8 rfl rfl rfl rfl rfl rfl sz36 rfl rfl ?_
    refine sgx ?_
    refine sr 2 ?_
    refine s1 (y_indexAddr rfl rfl rfl Tryz.underlying22 sz36 (fun hg => hu.isSome (by omega)) (fun _ => by omega)) ?_
    refine s1 (y_loadT rfl rfl hu (fun _ => rfl) (fun _ => hy1) Tryz.underlying36 rfl sz36) ?_
    refine S_alloc 9 9 rfl rfl rfl rfl z36 ?_
    intro b9
    refine S_store 9 rfl rfl rfl rfl rfl rfl sz36 rfl rfl ?_
    refine sgx ?_
    refine sr 1 ?_
    refine s1 (yA 8 rfl Tryz.underlying36 sz36) ?_
    refine s1 (yA 9 rfl Tryz.underlying36 sz36) ?_
    refine s1 (y_call rfl rfl rfl hcf (fun _ w hM => hA x y w hM.below ((hl.n x (mem_at hx1)).below hM.below) ((hm.n y (mem_at hy1)).below hM.below))) ?_
    refine sr 1 ?_
    refine sgo ?_
    refine T_cond rfl ?_ ?_ <;> intro h30
    · try simp only [nrm] at h30
      refine tx ?_
      refine sr 1 ?_
      refine sgo ?_
      refine tr1 hRb fun w hM => ?_
      exact ⟨by rw [hp2, hx2, hy2, eqLB, h30, Bool.false_and], hM.below⟩
    try simp only [nrm] at h30
    refine kgr ?_
    refine s1 (y_bin rfl rfl rfl (fun hg => b_add (by omega))) ?_
    refine sr 1 ?_
    refine S_nil (nK1 (kf := [(6, 9), (17, 31)]) (kl := [(6, 9), (17, 31)]) (i + 1) ?_ ?_ ?_ ?_)
    · omega
    · exact ⟨by omega, by rw [hp2, hx2, hy2, eqLB, h30, Bool.true_and]⟩
    · exact ⟨rfl, trivial⟩
    · exact trivial
  try simp only [nrm] at h18
  refine egx ?_
  refine sr 1 ?_
  refine sgo ?_
  refine tr1 hRb fun w hM => ?_
  exact ⟨by rw [hp2, ht.end (by omega), hu.end (by omega)]; rfl, hM.below⟩
def sameE (a b : Evt) : Bool := decide (a.id = b.id) && decide (a.at_ = b.at_) && decide (a.lv = b.lv) && eqLB Flt.eqB a.fa.l b.fa.l && eqLB STag.eqB a.ta.l b.ta.l && eqLB SCrumb.eqB a.cr.l b.cr.l && decide (a.rel = b.rel) && decide (a.us = b.us) && decide (a.wt = b.wt)
theorem SameEvent_any (a b : Evt) (w : World) (ha : a.Ok w) (hb : b.Ok w) :
    Calls Tryz.prog 58 #[a.val, b.val] w fun e w' => e = .returned (.bool (sameE a b)) ∧ Below w.heap.size w w' := by
  refine enter_args (args := [.agg #[str a.id, .int .i64 a.at_, .int .i64 a.lv, .slice a.fa.A a.fa.q a.fa.c, .slice a.ta.A a.ta.q a.ta.c, .slice a.cr.A a.cr.q a.cr.c, str a.rel, str a.us, .int .i64 a.wt], .agg #[str b.id, .int .i64 b.at_, .int .i64 b.lv, .slice b.fa.A b.fa.q b.fa.c, .slice b.ta.A b.ta.q b.ta.c, .slice b.cr.A b.cr.q b.cr.c, str b.rel, str b.us, .int .i64 b.wt]]) (F := _) Tryz.func58 rfl Tryz.ntmps58 rfl rfl ?_
  intro Rb hRb hRn
  refine tx ?_
  refine S_box 2 2 rfl rfl rfl rfl rfl ?_
  intro b2
  refine S_box 3 3 rfl rfl rfl rfl rfl ?_
  intro b3
  refine sr 1 ?_
  refine sgx ?_
  refine s1 (yF fa26_0) ?_
  refine s1 (yL 2 Tryz.underlying9) ?_
  refine s1 (yF fa26_0) ?_
  refine s1 (yL 3 Tryz.underlying9) ?_
  refine s1 (y_bin rfl rfl rfl (fun _ => b_eqls)) ?_
  refine sr 1 ?_
  refine sg rfl (yF fa26_1) ?_
  refine sg rfl (yL 2 Tryz.underlying3) ?_
  refine sg rfl (yF fa26_1) ?_
  refine sg rfl (yL 3 Tryz.underlying3) ?_
  refine sg rfl (y_bin rfl rfl rfl (fun _ => b_eql)) ?_
  refine s1 (y_and rfl rfl rfl) ?_
  refine sr 1 ?_
  refine sg rfl (yF fa26_2) ?_
  refine sg rfl (yL 2 Tryz.underlying3) ?_
  refine sg rfl (yF fa26_2) ?_
  refine sg rfl (yL 3 Tryz.underlying3) ?_
  refine sg rfl (y_bin rfl rfl rfl (fun _ => b_eql)) ?_
  refine s1 (y_and rfl rfl rfl) ?_
  refine sr 1 ?_
  refine sg rfl (yF fa26_3) ?_
  refine sg rfl (yL 2 Tryz.underlying22) ?_
  refine sg rfl (yF fa26_3) ?_
  refine sg rfl (yL 3 Tryz.underlying22) ?_
  refine sg rfl (y_call rfl rfl rfl cf84 (fun _ w hM => EqualFuncFlt_any a.fa b.fa _ #[] w (ha.fa.below hM.below) (hb.fa.below hM.below) cf140 (fun x y w _ hx hy => SameFault_any x y w hx hy))) ?_
  refine s1 (y_and rfl rfl rfl) ?_
  refine sr 1 ?_
  refine sg rfl (yF fa26_4) ?_
  refine sg rfl (yL 2 Tryz.underlying23) ?_
  refine sg rfl (yF fa26_4) ?_
  refine sg rfl (yL 3 Tryz.underlying23) ?_
  refine sg rfl (y_call rfl rfl rfl cf40 (fun _ w hM => EqualTg_any _ _ _ _ _ _ _ _ w (ha.ta.ok.t.below hM.below) (hb.ta.ok.t.below hM.below) ha.ta.q hb.ta.q)) ?_
  refine s1 (y_and rfl rfl rfl) ?_
  refine sr 1 ?_
  refine sg rfl (yF fa26_5) ?_
  refine sg rfl (yL 2 Tryz.underlying24) ?_
  refine sg rfl (yF fa26_5) ?_
  refine sg rfl (yL 3 Tryz.underlying24) ?_
  refine sg rfl (y_call rfl rfl rfl cf41 (fun _ w hM => EqualCr_any _ _ _ _ _ _ _ _ w (ha.cr.ok.t.below hM.below) (hb.cr.ok.t.below hM.below) ha.cr.q hb.cr.q)) ?_
  refine s1 (y_and rfl rfl rfl) ?_
  refine sr 1 ?_
  refine sg rfl (yF fa26_6) ?_
  refine sg rfl (yL 2 Tryz.underlying9) ?_
  refine sg rfl (yF fa26_6) ?_
  refine sg rfl (yL 3 Tryz.underlying9) ?_
  refine sg rfl (y_bin rfl rfl rfl (fun _ => b_eqls)) ?_
  refine s1 (y_and rfl rfl rfl) ?_
  refine sr 1 ?_
  refine sg rfl (yF fa26_7) ?_
  refine sg rfl (yL 2 Tryz.underlying9) ?_
  refine sg rfl (yF fa26_7) ?_
  refine sg rfl (yL 3 Tryz.underlying9) ?_
  refine sg rfl (y_bin rfl rfl rfl (fun _ => b_eqls)) ?_
  refine s1 (y_and rfl rfl rfl) ?_
  refine sr 1 ?_
  refine sg rfl (yF fa26_8) ?_
  refine sg rfl (yL 2 Tryz.underlying3) ?_
  refine sg rfl (yF fa26_8) ?_
  refine sg rfl (yL 3 Tryz.underlying3) ?_
  refine sg rfl (y_bin rfl rfl rfl (fun _ => b_eql)) ?_
  refine s1 (y_and rfl rfl rfl) ?_
  refine sr 1 ?_
  refine sgo ?_
  refine tr1 hRb fun w hM => ?_
  exact ⟨rfl, hM.below⟩
theorem eqL_refl {α : Type} {f : α → α → Bool} (h : ∀ a, f a a = true) : ∀ l : List α, eqLB f l l = true
  | [] => rfl
  | a :: r => by rw [eqLB, eqL_refl h r, h]; rfl
/-- the words of levels -/
def levels : List (List UInt8) := [[100, 101, 98, 117, 103], [110, 111, 116, 101], [119, 97, 114, 110, 105, 110, 103], [101, 114, 114, 111, 114], [102, 97, 116, 97, 108]]
theorem Levels_any (w : World) :
    Calls Tryz.prog 34 #[] w fun e w' => ∃ A c, e = .returned (.slice A 5 c) ∧ w'.ownsRow w.heap.size 9 1 (.slice A 5 c) 5 (levels.flatMap strE) ∧ Below w.heap.size w w' := by
  refine enter_args (args := []) (F := _) Tryz.func34 rfl Tryz.ntmps34 rfl rfl ?_
  intro Rb hRb hRn
  refine tx ?_
  refine S_nilSlice 0 (e := 9) (size := 1) ?_
  refine sr 1 ?_
  refine sgx ?_
  refine S_buildSlice 1 1 rfl rfl rfl rfl rfl Tryz.underlying53 inf9 rfl (by decide) (by decide) rfl rfl (by decide) rfl (_) rfl ?_
  intro b1
  refine sr 1 ?_
  refine sgo ?_
  refine tr1 hRb fun w hM => ?_
  exact ⟨_, _, rfl, hM.sat 1 _ rfl, hM.below⟩
theorem LevelWords_any (w : World) :
    Calls Tryz.prog 131 #[] w fun e w' => ∃ A c, e = .returned (.slice A 5 c) ∧ w'.ownsRow w.heap.size 9 1 (.slice A 5 c) 5 (levels.flatMap strE) ∧ Below w.heap.size w w' := by
  refine enter_args (args := []) (F := _) Tryz.func131 rfl Tryz.ntmps131 rfl rfl ?_
  intro Rb hRb hRn
  refine tx ?_
  refine S_nilSlice 0 (e := 9) (size := 1) ?_
  refine sr 1 ?_
  refine sgx ?_
  refine S_buildSlice 1 1 rfl rfl rfl rfl rfl Tryz.underlying53 inf9 rfl (by decide) (by decide) rfl rfl (by decide) rfl (_) rfl ?_
  intro b1
  refine sr 1 ?_
  refine sgo ?_
  refine tr1 hRb fun w hM => ?_
  exact ⟨_, _, rfl, hM.sat 1 _ rfl, hM.below⟩
end Go.Proofs.YtgbldojgbpgjbaaGreatDoor
end
section
namespace Go.Proofs.YtgbldojgbpgjbaaGreatDoor
set_option linter.unusedSimpArgs false
set_option linter.unusedVariables false
set_option maxRecDepth 20000
open Go.RowKit Go.Eng
end Go.Proofs.YtgbldojgbpgjbaaGreatDoor
end
section
namespace Go.Proofs.YtgbldojgbpgjbaaGreatDoor
set_option linter.unusedSimpArgs false
set_option linter.unusedVariables false
set_option maxRecDepth 20000
open Go.RowKit Go.Eng
theorem Contains1_any (s : List UInt8) (c : UInt8) (w : World) : Calls Tryz.prog 72 #[str s, str [c]] w fun e w' => e = .returned (.bool (decide (0 ≤ Lib.indexByte s c))) ∧ Below w.heap.size w w' :=
  (Tryz.strings_Contains_one ⟨s.toArray⟩ c w).mono fun e w' h => ⟨by rw [h.1], h.2 ▸ Below.refl _ _⟩
theorem Index1_any (s : List UInt8) (c : UInt8) (w : World) : Calls Tryz.prog 163 #[str s, str [c]] w fun e w' => e = .returned (.int .i64 (Lib.indexByte s c)) ∧ Below w.heap.size w w' :=
  (Tryz.strings_Index_one ⟨s.toArray⟩ c w).mono fun e w' h => ⟨by rw [h.1], h.2 ▸ Below.refl _ _⟩
theorem LIndex1_any (s : List UInt8) (c : UInt8) (w : World) : Calls Tryz.prog 219 #[str s, str [c]] w fun e w' => e = .returned (.int .i64 (Lib.indexByte s c)) ∧ Below w.heap.size w w' :=
  (Tryz.stringslite_Index_one ⟨s.toArray⟩ c w).mono fun e w' h => ⟨by rw [h.1], h.2 ▸ Below.refl _ _⟩
theorem Count1_any (s : List UInt8) (c : UInt8) (w : World) : Calls Tryz.prog 250 #[str s, str [c]] w fun e w' => e = .returned (.int .i64 ((s.count c : Nat) : Int)) ∧ Below w.heap.size w w' :=
  (Tryz.strings_Count_one ⟨s.toArray⟩ c w).mono fun e w' h => ⟨by rw [h.1]; rfl, h.2 ▸ Below.refl _ _⟩
theorem HasSuffix_any (s p : List UInt8) (hs : s.length ≤ 4611686018427387904) (w : World) : Calls Tryz.prog 254 #[str s, str p] w fun e w' => e = .returned (.bool (Lib.hasSuffix s p)) ∧ Below w.heap.size w w' :=
  (Tryz.strings_HasSuffix ⟨s.toArray⟩ ⟨p.toArray⟩ w (by show s.toArray.size ≤ _; simp; omega)).mono fun e w' h => ⟨by rw [h.1], h.2 ▸ Below.refl _ _⟩
/-! ### Split -/
def splitC (c : UInt8) : List UInt8 → List (List UInt8)
  | [] => [[]]
  | x :: r => if x = c then [] :: splitC c r else match splitC c r with
    | h :: t => (x :: h) :: t
    | [] => [[x]]
theorem splitC_len (c : UInt8) : ∀ s : List UInt8, (splitC c s).length = s.count c + 1
  | [] => rfl
  | x :: r => by
    have ih := splitC_len c r
    rw [splitC]
    by_cases h : x = c
    · subst h; rw [if_pos rfl, List.length_cons, ih, List.count_cons_self]
    · rw [if_neg h, List.count_cons_of_ne h]
      cases hq : splitC c r with
      | nil => rw [hq] at ih; simp at ih
      | cons a t => rw [hq] at ih; simpa using ih
theorem splitC_none (c : UInt8) : ∀ s : List UInt8, (∀ k : Nat, s[k]? ≠ some c) → splitC c s = [s]
  | [], _ => rfl
  | x :: r, h => by
    have hx : ¬ x = c := fun e => h 0 (by simp [e])
    rw [splitC, if_neg hx, splitC_none c r fun k => by have := h (k + 1); simpa using this]
theorem splitC_some (c : UInt8) : ∀ (s : List UInt8) (o : Nat), s[o]? = some c → (∀ k : Nat, k < o → s[k]? ≠ some c) → splitC c s = s.take o :: splitC c (s.drop (o + 1))
  | [], o, h, _ => by simp at h
  | x :: r, 0, h, _ => by
    have hx : x = c := by simpa using h
    rw [splitC, if_pos hx]; rfl
  | x :: r, o + 1, h, hk => by
    have hx : ¬ x = c := fun e => hk 0 (by omega) (by simp [e])
    rw [splitC, if_neg hx, splitC_some c r o (by simpa using h) fun k hko => by have := hk (k + 1) (by omega); simpa using this]
    rfl
theorem strs_flat (l : List (List UInt8)) : l.flatMap strE = l.map str := by
  induction l with
  | nil => rfl
  | cons a r ih => rw [List.flatMap_cons, ih]; rfl
theorem strs_len (l : List (List UInt8)) : (l.flatMap strE).length = l.length := by rw [strs_flat, List.length_map]
theorem strs_set {out : List (List UInt8)} {i m : Nat} {v : List UInt8} (ho : out.length = i) (hm : 0 < m) : ((out ++ List.replicate m []).flatMap strE).set i (str v) = ((out ++ [v]) ++ List.replicate (m - 1) []).flatMap strE := by
  obtain ⟨k, rfl⟩ : ∃ k, m = k + 1 := ⟨m - 1, by omega⟩
  subst ho
  rw [strs_flat, strs_flat, Nat.add_sub_cancel, List.replicate_succ]
  simp
theorem made_str (z : Value) (hz : z = str []) (n : Nat) : (madeCells z.cells (n * 1)).toList = (List.replicate n []).flatMap strE := by
  subst hz
  rw [strs_flat, Nat.mul_one]
  apply List.ext_getElem?
  intro j
  by_cases h : j < n
  · simp [madeCells, h, List.getElem?_replicate, Value.cells, Nat.mod_one]
  · simp [madeCells, h, List.getElem?_replicate]
set_option maxHeartbeats 1000000 in
theorem genSplit1_any (s : List UInt8) (c : UInt8) (hs : s.length ≤ 1000000000) (w : World) :
    Calls Tryz.prog 197 #[str s, str [c], .int .i64 0, .int .i64 (-1)] w fun e w' => ∃ A q, e = .returned (.slice A (splitC c s).length q) ∧ w'.ownsRow w.heap.size 9 1 (.slice A (splitC c s).length q) (splitC c s).length ((splitC c s).flatMap strE) ∧ Below w.heap.size w w' := by
  have hcl : s.count c ≤ s.length := List.count_le_length
  have hsl := splitC_len c s
  refine enter_args (args := [str s, str [c], .int .i64 0, .int .i64 (-1)]) (F := _) Tryz.func197 rfl Tryz.ntmps197 rfl rfl ?_
  intro Rb hRb hRn
  refine tx ?_
  refine S_nilSlice 8 (e := 9) (size := 1) ?_
  refine sr 1 ?_
  refine sgs ?_
  refine tx ?_
  refine sr 2 ?_
  refine sgo ?_
  refine T_cond rfl ?_ ?_ <;> intro h13
  · skip
    simp at h13
  refine kgs ?_
  refine tx ?_
  refine sr 1 ?_
  refine s1 (y_bin rfl rfl rfl (fun _ => b_eqls)) ?_
  refine sgo ?_
  refine T_cond rfl ?_ ?_ <;> intro h15
  · skip
    simp at h15
  refine kgs ?_
  refine tx ?_
  refine sr 2 ?_
  refine sgo ?_
  refine T_cond rfl ?_ ?_ <;> intro h20
  · skip
    refine T_region ?_
    refine sr 2 ?_
    refine s1 (y_call rfl rfl rfl cf250 (fun _ w _ => Count1_any s c w)) ?_
    refine s1 (y_bin rfl rfl rfl (fun hg => b_addv (((s.count c + 1 : Nat) : Int)) (by omega) (by omega))) ?_
    refine sr 1 ?_
    refine sgx ?_
    refine sr 2 ?_
    refine s1 (y_len_str rfl rfl Tryz.underlying9) ?_
    refine s1 (y_bin rfl rfl rfl (fun hg => b_add (by omega))) ?_
    refine s1 (y_as (v' := .int .i64 ((s.count c + 1 : Nat) : Int)) (by congr 1; split <;> omega) (y_min rfl rfl rfl)) ?_
    refine sr 1 ?_
    refine sgx ?_
    refine sr 1 ?_
    obtain ⟨i31, hi31, hz31, hs31, hy31⟩ := info_parts inf9
    refine S_makeSlice 31 31 rfl rfl rfl rfl rfl rfl Tryz.underlying53 hi31 hz31 hs31 (by rw [hy31]; omega) ((by simp only [maxLen]; omega)) rfl ?_
    intro b31
    refine sr 1 ?_
    refine sgx ?_
    refine sr 1 ?_
    refine s1 (y_bin rfl rfl rfl (fun hg => b_subv (((s.count c : Nat) : Int)) (by omega) (by omega))) ?_
    refine sr 1 ?_
    refine sgx ?_
    refine sr 1 ?_
    refine sgs ?_
    refine T_block ?_
    refine lK3 (kf := [(0, 0), (10, 11), (34, 57)]) (kl := [(0, 0), (10, 11), (31, 31), (34, 57)]) (fun (i : Nat) (out : List (List UInt8)) (rest : List UInt8) => [(10, true, .int .i64 (i : Int)), (0, true, str rest)]) (fun (i : Nat) (out : List (List UInt8)) (rest : List UInt8) => [(31, .own 9 1 (.slice (some ⟨b31, 0, none⟩) (s.count c + 1) (s.count c + 1)) (s.count c + 1) ((out ++ List.replicate (s.count c + 1 - i) []).flatMap strE))]) (fun (i : Nat) (out : List (List UInt8)) (rest : List UInt8) => out.length = i ∧ out ++ splitC c rest = splitC c s ∧ i + (splitC c rest).length = s.count c + 1 ∧ rest.length ≤ s.length) (fun (i : Nat) (out : List (List UInt8)) (rest : List UInt8) => s.count c + 1 - i) 0 [] s ?_ ?_ ?_ ?_
    · exact ⟨rfl, rfl, by omega, by omega⟩
    · exact ⟨rfl, rfl, trivial⟩
    · exact ⟨by rw [made_str _ rfl]; rfl, trivial⟩
    rintro i out rest ⟨hp1, hp2, hp3, hp4⟩
    refine T_seq ?_
    refine tx ?_
    refine sr 3 ?_
    refine sgo ?_
    refine T_cond rfl ?_ ?_ <;> intro h36
    · try simp only [nrm] at h36
      refine kgo ?_
      refine T_block ?_
      refine tx ?_
      refine sr 2 ?_
      refine s1 (y_call rfl rfl rfl cf163 (fun _ w _ => Index1_any rest c w)) ?_
      refine sr 1 ?_
      refine sgs ?_
      refine tx ?_
      refine sr 2 ?_
      refine sgo ?_
      refine T_cond rfl ?_ ?_ <;> intro h41
      · try simp only [nrm] at h41
        have hix : Lib.indexByte rest c = -1 := by have := Lib.indexByte_ge rest c; omega
        have hr0 : splitC c rest = [rest] := splitC_none c rest (Lib.indexByte_none hix)
        have hi1 : i + 1 = s.count c + 1 := by rw [hr0] at hp3; exact hp3
        refine egx ?_
        refine sr 3 ?_
        refine s1 (y_indexOwn 31 rfl rfl rfl rfl Tryz.underlying53 sz9 (fun _ => by omega)) ?_
        refine S_storeOwn 31 rfl rfl rfl rfl rfl rfl sz9 rfl rfl ?_ (xs' := ((out ++ [rest]) ++ List.replicate (s.count c + 1 - i - 1) []).flatMap strE) ?_ ?_
        · (rw [strs_len, List.length_append, List.length_replicate]; omega)
        · exact strs_set hp1 (by omega)
        refine sgx ?_
        refine sr 2 ?_
        refine s1 (y_bin rfl rfl rfl (fun hg => b_addv (((i + 1 : Nat) : Int)) (by omega) (by omega))) ?_
        refine S_shrink 31 (i + 1) rfl (by omega) ?_
        refine s1 (y_as (v' := .slice (some ⟨b31, 0, none⟩) (i + 1) (s.count c + 1)) (by rw [slice0, Nat.sub_zero, Nat.sub_zero]) (y_slice (lo := 0) (hi := i + 1) rfl rfl Tryz.underlying53 sz9 (.inl ⟨rfl, rfl⟩) (.inr ⟨_, _, rfl, rfl⟩) (by omega) (by omega) (Nat.le_refl _))) ?_
        refine sr 1 ?_
        refine sgo ?_
        refine tr1 hRb fun w hM => ?_
        have hfin : splitC c s = out ++ [rest] := by rw [← hp2, hr0]
        have hlen : (splitC c s).length = i + 1 := by rw [hfin, List.length_append, hp1]; rfl
        rw [hlen]
        refine ⟨some ⟨b31, 0, none⟩, s.count c + 1, rfl, ?_, hM.below⟩
        have h := hM.sat 31 _ rfl
        rw [show s.count c + 1 - i - 1 = 0 by omega, List.replicate_zero, List.append_nil, ← hfin, List.take_of_length_le (by rw [strs_len, hlen]; omega)] at h
        exact h
      try simp only [nrm] at h41
      obtain ⟨o, ho⟩ : ∃ o : Nat, Lib.indexByte rest c = o := ⟨(Lib.indexByte rest c).toNat, by omega⟩
      obtain ⟨ho1, ho2⟩ := Lib.indexByte_some ho
      have hol := (List.getElem?_eq_some_iff.1 ho1).1
      have hsp := splitC_some c rest o ho1 ho2
      have hdl : (rest.drop (o + 1)).length = rest.length - (o + 1) := List.length_drop
      refine kgx ?_
      refine sr 5 ?_
      refine s1 (y_bin rfl rfl rfl (fun hg => b_addv (((o : Nat) : Int)) (by omega) (by omega))) ?_
      refine s1 (y_as (v' := str (rest.take o)) (by rfl) (y_strTo rfl rfl rfl Tryz.underlying9 (fun _ => by omega))) ?_
      refine s1 (y_indexOwn 31 rfl rfl rfl rfl Tryz.underlying53 sz9 (fun _ => by omega)) ?_
      refine S_storeOwn 31 rfl rfl rfl rfl rfl rfl sz9 rfl rfl ?_ (xs' := ((out ++ [rest.take o]) ++ List.replicate (s.count c + 1 - i - 1) []).flatMap strE) ?_ ?_
      · (rw [strs_len, List.length_append, List.length_replicate]; omega)
      · exact strs_set hp1 (by omega)
      refine sgx ?_
      refine sr 3 ?_
      refine s1 (y_as (v' := .int .i64 1) (by exact rfl) (y_len_str rfl rfl Tryz.underlying9)) ?_
      refine s1 (y_bin rfl rfl rfl (fun hg => b_addv (((o + 1 : Nat) : Int)) (by omega) (by omega))) ?_
      refine s1 (y_as (v' := str (rest.drop (o + 1))) (by rfl) (y_strFrom rfl rfl rfl Tryz.underlying9 (fun _ => by omega))) ?_
      refine sr 1 ?_
      refine sgr ?_
      refine sr 1 ?_
      refine s1 (y_bin rfl rfl rfl (fun hg => b_addv (((i + 1 : Nat) : Int)) (by omega) (by omega))) ?_
      refine sr 1 ?_
      refine S_nil (nK3 (kf := [(0, 0), (10, 11), (34, 57)]) (kl := [(0, 0), (10, 11), (31, 31), (34, 57)]) (i + 1) (out ++ [rest.take o]) (rest.drop (o + 1)) ?_ ?_ ?_ ?_)
      · omega
      · exact ⟨by simp [hp1], by rw [← hp2, hsp, List.append_assoc]; rfl, by rw [hsp, List.length_cons] at hp3; omega, by omega⟩
      · exact ⟨rfl, rfl, trivial⟩
      · exact ⟨rfl, trivial⟩
    try simp only [nrm] at h36
    have hr0 : splitC c rest = [rest] := by
      rcases hq : splitC c rest with _ | ⟨a, _ | ⟨b, t⟩⟩
      · rw [hq] at hp3; have := splitC_len c rest; rw [hq] at this; simp at this
      · have h1 := splitC_len c rest
        rw [hq] at h1
        rw [← hq]
        refine splitC_none c rest fun k hk => ?_
        have := List.count_pos_iff.2 (List.mem_of_getElem? hk)
        simp at h1
        omega
      · rw [hq] at hp3; simp at hp3; omega
    have hi1 : i + 1 = s.count c + 1 := by rw [hr0] at hp3; exact hp3
    refine egx ?_
    refine sr 3 ?_
    refine s1 (y_indexOwn 31 rfl rfl rfl rfl Tryz.underlying53 sz9 (fun _ => by omega)) ?_
    refine S_storeOwn 31 rfl rfl rfl rfl rfl rfl sz9 rfl rfl ?_ (xs' := ((out ++ [rest]) ++ List.replicate (s.count c + 1 - i - 1) []).flatMap strE) ?_ ?_
    · (rw [strs_len, List.length_append, List.length_replicate]; omega)
    · exact strs_set hp1 (by omega)
    refine sgx ?_
    refine sr 2 ?_
    refine s1 (y_bin rfl rfl rfl (fun hg => b_addv (((i + 1 : Nat) : Int)) (by omega) (by omega))) ?_
    refine S_shrink 31 (i + 1) rfl (by omega) ?_
    refine s1 (y_as (v' := .slice (some ⟨b31, 0, none⟩) (i + 1) (s.count c + 1)) (by rw [slice0, Nat.sub_zero, Nat.sub_zero]) (y_slice (lo := 0) (hi := i + 1) rfl rfl Tryz.underlying53 sz9 (.inl ⟨rfl, rfl⟩) (.inr ⟨_, _, rfl, rfl⟩) (by omega) (by omega) (Nat.le_refl _))) ?_
    refine sr 1 ?_
    refine sgo ?_
    refine tr1 hRb fun w hM => ?_
    have hfin : splitC c s = out ++ [rest] := by rw [← hp2, hr0]
    have hlen : (splitC c s).length = i + 1 := by rw [hfin, List.length_append, hp1]; rfl
    rw [hlen]
    refine ⟨some ⟨b31, 0, none⟩, s.count c + 1, rfl, ?_, hM.below⟩
    have h := hM.sat 31 _ rfl
    rw [show s.count c + 1 - i - 1 = 0 by omega, List.replicate_zero, List.append_nil, ← hfin, List.take_of_length_le (by rw [strs_len, hlen]; omega)] at h
    exact h
  simp at h20
theorem Split1_any (s : List UInt8) (c : UInt8) (hs : s.length ≤ 1000000000) (w : World) :
    Calls Tryz.prog 135 #[str s, str [c]] w fun e w' => ∃ A q, e = .returned (.slice A (splitC c s).length q) ∧ w'.ownsRow w.heap.size 9 1 (.slice A (splitC c s).length q) (splitC c s).length ((splitC c s).flatMap strE) ∧ Below w.heap.size w w' := by
  refine enter_args (args := [str s, str [c]]) (F := _) Tryz.func135 rfl Tryz.ntmps135 rfl rfl ?_
  intro Rb hRb hRn
  refine tx ?_
  refine S_nilSlice 4 (e := 9) (size := 1) ?_
  refine sr 1 ?_
  refine sgx ?_
  refine sr 2 ?_
  refine S_callOwn 7 7 rfl rfl rfl rfl rfl rfl rfl cf197 (fun A q => .slice A (splitC c s).length q) 9 1 ((splitC c s).length) ((splitC c s).flatMap strE) (fun w hM => genSplit1_any s c hs w) ?_
  intro A7 c7
  refine sr 1 ?_
  refine sgo ?_
  refine tr1 hRb fun w hM => ?_
  exact ⟨A7, c7, rfl, hM.sat 7 _ rfl, hM.below⟩
/-! ### Cut -/
def cutC (c : UInt8) (s : List UInt8) : List UInt8 × List UInt8 × Bool := if Lib.indexByte s c < 0 then (s, [], false) else (s.take (Lib.indexByte s c).toNat, s.drop ((Lib.indexByte s c).toNat + 1), true)
theorem LCut1_any (s : List UInt8) (c : UInt8) (w : World) (hs : s.length ≤ 4611686018427387904) : Calls Tryz.prog 172 #[str s, str [c]] w fun e w' => e = .returned (.tuple #[str (cutC c s).1, str (cutC c s).2.1, .bool (cutC c s).2.2]) ∧ Below w.heap.size w w' := by
  refine enter_args (args := [str s, str [c]]) (F := _) Tryz.func172 rfl Tryz.ntmps172 rfl rfl ?_
  intro Rb hRb hRn
  refine tx ?_
  refine sr 3 ?_
  refine sgs ?_
  refine tx ?_
  refine sr 2 ?_
  refine s1 (y_call rfl rfl rfl cf219 (fun _ w _ => LIndex1_any s c w)) ?_
  refine sr 1 ?_
  refine sgx ?_
  refine sr 2 ?_
  refine sgo ?_
  refine T_cond rfl ?_ ?_ <;> intro h12
  · try simp only [nrm] at h12
    obtain ⟨o, ho⟩ : ∃ o : Nat, Lib.indexByte s c = o := ⟨(Lib.indexByte s c).toNat, by omega⟩
    obtain ⟨ho1, ho2⟩ := Lib.indexByte_some ho
    have hol := (List.getElem?_eq_some_iff.1 ho1).1
    refine T_seq ?_
    refine T_draws (by kernel_rfl) (by kernel_rfl) ?_
    refine d1 (y_move rfl rfl) ?_
    refine d1 (y_as (v' := .int .i64 ((o : Nat) : Int)) (by rw [ho]) (y_move rfl rfl)) ?_
    refine d1 (y_strTo rfl rfl rfl Tryz.underlying9 (fun _ => by omega)) ?_
    refine d1 (y_move rfl rfl) ?_
    refine d1 (y_as (v' := .int .i64 ((o : Nat) : Int)) (by rw [ho]) (y_move rfl rfl)) ?_
    refine d1 (y_move rfl rfl) ?_
    refine d1 (y_as (v' := .int .i64 1) (by exact rfl) (y_len_str rfl rfl Tryz.underlying9)) ?_
    refine d1 (y_bin rfl rfl rfl (fun hg => b_addv (((o + 1 : Nat) : Int)) (by omega) (by omega))) ?_
    refine d1 (y_strFrom rfl rfl rfl Tryz.underlying9 (fun _ => by omega)) ?_
    refine d1 (y_assign rfl rfl) ?_
    refine d1 (y_assign rfl rfl) ?_
    refine d1 (y_assign rfl rfl) ?_
    refine dgo ?_
    refine tr3 hRb fun w hM => ?_
    exact ⟨by rw [cutC, if_neg (by omega), ho]; rfl, hM.below⟩
  try simp only [nrm] at h12
  refine kgx ?_
  refine sr 4 ?_
  refine sgo ?_
  refine tr3 hRb fun w hM => ?_
  exact ⟨by rw [cutC, if_pos (by omega)], hM.below⟩
theorem Cut1_any (s : List UInt8) (c : UInt8) (w : World) (hs : s.length ≤ 4611686018427387904) : Calls Tryz.prog 79 #[str s, str [c]] w fun e w' => e = .returned (.tuple #[str (cutC c s).1, str (cutC c s).2.1, .bool (cutC c s).2.2]) ∧ Below w.heap.size w w' := by
  refine enter_args (args := [str s, str [c]]) (F := _) Tryz.func79 rfl Tryz.ntmps79 rfl rfl ?_
  intro Rb hRb hRn
  refine tx ?_
  refine sr 3 ?_
  refine sgx ?_
  refine sr 2 ?_
  refine s1 (y_call rfl rfl rfl cf172 (fun _ w _ => LCut1_any s c w hs)) ?_
  refine sr 6 ?_
  refine sgo ?_
  refine tr3 hRb fun w hM => ?_
  exact ⟨rfl, hM.below⟩
/-! ### Words in a list -/
end Go.Proofs.YtgbldojgbpgjbaaGreatDoor
end
section
namespace Go.Proofs.YtgbldojgbpgjbaaGreatDoor
set_option linter.unusedSimpArgs false
set_option linter.unusedVariables false
set_option maxRecDepth 20000
open Go.RowKit Go.Eng
theorem dropWhile_nil {p : UInt8 → Bool} : ∀ {l : List UInt8}, l.dropWhile p = [] → ∀ c ∈ l, p c = true
  | [], _ => fun c h => by cases h
  | a :: r, h => fun c hc => by
    rw [List.dropWhile_cons] at h
    split at h
    · rcases List.mem_cons.1 hc with rfl | hc
      · assumption
      · exact dropWhile_nil h c hc
    · cases h
theorem dropWhile_head {p : UInt8 → Bool} : ∀ {l : List UInt8} {y : UInt8} {t : List UInt8}, l.dropWhile p = y :: t → p y = false
  | [], y, t, h => by simp at h
  | a :: r, y, t, h => by
    rw [List.dropWhile_cons] at h
    split at h
    · exact dropWhile_head h
    · rename_i hp
      obtain ⟨rfl, _⟩ := List.cons.inj h
      simpa using hp
theorem trimS_nil {s cs : List UInt8} (h : Lib.trimS s cs = []) : ∀ c ∈ s, cs.contains c = true := by
  have h1 := dropWhile_nil (l := Lib.trimRightS s cs) h
  have h2 : s.reverse.dropWhile (cs.contains ·) = [] := by
    cases hq : s.reverse.dropWhile (cs.contains ·) with
    | nil => rfl
    | cons y t =>
      have h3 := dropWhile_head hq
      have h4 := h1 y (by unfold Lib.trimRightS; rw [hq]; simp)
      rw [h3] at h4; cases h4
  intro c hc
  exact dropWhile_nil h2 c (List.mem_reverse.2 hc)
abbrev digB : List UInt8 := [48, 49, 50, 51, 52, 53, 54, 55, 56, 57]
theorem digB_iff {c : UInt8} (h : digB.contains c = true) : 48 ≤ c.toNat ∧ c.toNat ≤ 57 := by
  have h : c ∈ digB := by simpa using h
  simp only [digB, List.mem_cons, List.not_mem_nil, or_false] at h
  rcases h with rfl | rfl | rfl | rfl | rfl | rfl | rfl | rfl | rfl | rfl <;> decide
def valD (s : List UInt8) : Nat := s.foldl (fun n c => n * 10 + (c.toNat - 48)) 0
theorem valD_snoc (l : List UInt8) (c : UInt8) : valD (l ++ [c]) = valD l * 10 + (c.toNat - 48) := by rw [valD, List.foldl_append]; rfl
theorem wrap8_in {V : Int} (h : 0 ≤ V ∧ V ≤ 255) : IntKind.u8.wrap V = V := IntWalk.u8_in _ (by omega)
theorem bytesV_at {s : List UInt8} {i : Nat} (h : i < s.length) : (bytesV s)[i]? = some (.int .u8 (((s.getD i 0).toNat : Nat) : Int)) := by
  simp [bytesV, List.getElem?_map, List.getElem?_eq_getElem h, List.getD_eq_getElem?_getD]
theorem getD_mem {s : List UInt8} {i : Nat} (h : i < s.length) : s.getD i 0 ∈ s := by
  rw [List.getD_eq_getElem?_getD, List.getElem?_eq_getElem h]; exact List.getElem_mem h
theorem take_getD {s : List UInt8} {i : Nat} (h : i < s.length) : s.take (i + 1) = s.take i ++ [s.getD i 0] := by
  rw [List.getD_eq_getElem?_getD, List.getElem?_eq_getElem h, List.take_succ_eq_append_getElem h]; rfl
theorem iAtoi_any (s : List UInt8) (h0 : s ≠ []) (h6 : s.length ≤ 18) (hd : ∀ c ∈ s, 48 ≤ c.toNat ∧ c.toNat ≤ 57) (w : World) :
    Calls Tryz.prog 272 #[str s] w fun e w' => e = .returned (.tuple #[.int .i64 (valD s : Nat), .nilIface]) ∧ Below w.heap.size w w' := by
  have hl : 0 < s.length := List.length_pos_iff.2 h0
  have hd0 := hd _ (getD_mem (i := 0) hl)
  refine enter_args (args := [str s]) (F := _) Tryz.func272 rfl Tryz.ntmps272 rfl rfl ?_
  intro Rb hRb hRn
  refine tx ?_
  refine sr 2 ?_
  refine sgx ?_
  refine sr 1 ?_
  refine s1 (y_len_str rfl rfl Tryz.underlying9) ?_
  refine sr 1 ?_
  refine sgs ?_
  refine tx ?_
  refine sr 1 ?_
  refine sg rfl (y_move rfl rfl) ?_
  refine sg rfl (y_bin rfl rfl rfl (fun _ => b_lss)) ?_
  refine sg rfl (y_move rfl rfl) ?_
  refine sg rfl (y_move rfl rfl) ?_
  refine sg rfl (y_bin rfl rfl rfl (fun _ => b_lss)) ?_
  refine sg rfl (y_and rfl rfl rfl) ?_
  refine s1 (y_and rfl rfl rfl) ?_
  refine sr 1 ?_
  refine sg rfl (y_move rfl rfl) ?_
  refine sg rfl (y_move rfl rfl) ?_
  refine sg rfl (y_bin rfl rfl rfl (fun _ => b_lss)) ?_
  refine sg rfl (y_move rfl rfl) ?_
  refine sg rfl (y_move rfl rfl) ?_
  refine sg rfl (y_bin rfl rfl rfl (fun _ => b_lss)) ?_
  refine sg rfl (y_and rfl rfl rfl) ?_
  refine sg rfl (y_and rfl rfl rfl) ?_
  refine s1 (y_or rfl rfl rfl) ?_
  refine sgo ?_
  refine T_cond rfl ?_ ?_ <;> intro h30
  · skip
    refine tx ?_
    refine sr 2 ?_
    refine sgs ?_
    refine tx ?_
    refine sr 1 ?_
    refine s1 (y_index_str (j := 0) rfl rfl rfl Tryz.underlying9 (fun _ => hl)) ?_
    refine sr 2 ?_
    refine sg rfl (y_move rfl rfl) ?_
    refine sg rfl (y_index_str (j := 0) rfl rfl rfl Tryz.underlying9 (fun _ => hl)) ?_
    refine sg rfl (y_bin rfl rfl rfl (fun _ => b_eql)) ?_
    refine s1 (y_or rfl rfl rfl) ?_
    refine sgo ?_
    refine T_cond rfl ?_ ?_ <;> intro h39
    · skip
      simp only [Bool.or_eq_true, decide_eq_true_eq] at h39
      omega
    refine kgx ?_
    refine sr 1 ?_
    refine sgs ?_
    refine tx ?_
    refine sr 1 ?_
    refine S_strBytes 47 47 rfl rfl rfl rfl rfl Tryz.underlying9 Tryz.underlying71 Tryz.underlying5 ?_
    intro b47 c47
    refine s1 (y_len_slice rfl rfl Tryz.underlying71) ?_
    refine sr 1 ?_
    refine sgo ?_
    refine T_block ?_
    refine lK2 (kf := [(2, 3), (6, 6), (8, 8), (49, 63)]) (kl := [(2, 3), (6, 6), (8, 8), (49, 63)]) (fun (i m : Nat) => [(49, true, .int .i64 (i : Int)), (6, true, .int .i64 (m : Int))]) (fun (i m : Nat) => []) (fun (i m : Nat) => i ≤ s.length ∧ m < 10 ^ i ∧ valD (s.take i) = m) (fun (i m : Nat) => s.length - i) 0 0 ?_ ?_ ?_ ?_
    · exact ⟨by omega, by decide, rfl⟩
    · exact ⟨rfl, rfl, trivial⟩
    · exact trivial
    rintro i m ⟨hp1, hp2, hp3⟩
    refine tx ?_
    refine sr 1 ?_
    refine sgs ?_
    refine T_cond rfl ?_ ?_ <;> intro h50
    · try simp only [nrm] at h50
      have hdi := hd _ (getD_mem (i := i) (by omega))
      have hp10 : 10 ^ i ≤ 100000000000000000 := Nat.le_trans (Nat.pow_le_pow_right (by decide) (by omega : i ≤ 17)) (by decide)
      refine kgs ?_
      refine T_block ?_
      refine tx ?_
      refine s1 (y_indexAddr rfl rfl rfl Tryz.underlying71 sz5 (fun _ => rfl) (fun _ => by omega)) ?_
      refine s1 (y_loadRd 47 rfl rfl rfl (fun _ => bytesV_at (by omega)) Tryz.underlying5 rfl) ?_
      refine sr 1 ?_
      refine sgx ?_
      refine sr 1 ?_
      refine s1 (y_as (v' := .int .u8 (((s.getD i 0).toNat - 48 : Nat) : Int)) (by congr 1; rw [wrap8_in (by omega)]; omega) (y_bin rfl rfl rfl (fun hg => b_subw))) ?_
      refine sr 1 ?_
      refine sgs ?_
      refine tx ?_
      refine sr 2 ?_
      refine sgo ?_
      refine T_cond rfl ?_ ?_ <;> intro h56
      · try simp only [nrm] at h56
        omega
      try simp only [nrm] at h56
      refine kgr ?_
      refine sr 1 ?_
      refine s1 (y_bin rfl rfl rfl (fun hg => b_mulv (((m * 10 : Nat) : Int)) (by omega) (by omega))) ?_
      refine sr 1 ?_
      refine s1 (y_conv64 rfl rfl Tryz.underlying5 Tryz.underlying3 (fun _ => by omega)) ?_
      refine s1 (y_bin rfl rfl rfl (fun hg => b_addv (((m * 10 + ((s.getD i 0).toNat - 48) : Nat) : Int)) (by omega) (by omega))) ?_
      refine sr 1 ?_
      refine sgr ?_
      refine s1 (y_bin rfl rfl rfl (fun hg => b_add (by omega))) ?_
      refine sr 1 ?_
      refine S_nil (nK2 (kf := [(2, 3), (6, 6), (8, 8), (49, 63)]) (kl := [(2, 3), (6, 6), (8, 8), (49, 63)]) (i + 1) (m * 10 + ((s.getD i 0).toNat - 48)) ?_ ?_ ?_ ?_)
      · omega
      · exact ⟨by omega, by rw [Nat.pow_succ]; omega, by rw [take_getD (by omega), valD_snoc, hp3]⟩
      · exact ⟨rfl, rfl, trivial⟩
      · exact trivial
    try simp only [nrm] at h50
    refine egs ?_
    refine tx ?_
    refine sr 1 ?_
    refine s1 (y_index_str (j := 0) rfl rfl rfl Tryz.underlying9 (fun _ => hl)) ?_
    refine sr 1 ?_
    refine sgo ?_
    refine T_cond rfl ?_ ?_ <;> intro h66
    · skip
      simp only [decide_eq_true_eq] at h66
      omega
    refine kgx ?_
    refine sr 3 ?_
    refine sgo ?_
    refine tr2 hRb fun w hM => ?_
    have hv : valD s = m := by rw [← hp3, List.take_of_length_le (by omega)]
    exact ⟨by rw [hv], hM.below⟩
  simp at h30
  omega
theorem Atoi_any (s : List UInt8) (h0 : s ≠ []) (h6 : s.length ≤ 18) (hd : ∀ c ∈ s, 48 ≤ c.toNat ∧ c.toNat ≤ 57) (w : World) :
    Calls Tryz.prog 227 #[str s] w fun e w' => e = .returned (.tuple #[.int .i64 (valD s : Nat), .nilIface]) ∧ Below w.heap.size w w' := by
  refine enter_args (args := [str s]) (F := _) Tryz.func227 rfl Tryz.ntmps227 rfl rfl ?_
  intro Rb hRb hRn
  refine tx ?_
  refine sr 2 ?_
  refine sgx ?_
  refine sr 1 ?_
  refine s1 (y_call rfl rfl rfl cf272 (fun _ w _ => iAtoi_any s h0 h6 hd w)) ?_
  refine sr 5 ?_
  refine sgs ?_
  refine tx ?_
  refine sr 1 ?_
  refine s1 (y_bin rfl rfl rfl (fun _ => b_neqII Tryz.underlying75)) ?_
  refine sgo ?_
  refine T_cond rfl ?_ ?_ <;> intro h12
  · skip
    cases h12
  refine kgx ?_
  refine sr 3 ?_
  refine sgo ?_
  refine tr2 hRb fun w hM => ?_
  exact ⟨rfl, hM.below⟩
end Go.Proofs.YtgbldojgbpgjbaaGreatDoor
end
section
namespace Go.Proofs.YtgbldojgbpgjbaaGreatDoor
set_option linter.unusedSimpArgs false
set_option linter.unusedVariables false
set_option maxRecDepth 20000
open Go.RowKit Go.Eng
def digs : List UInt8 := [48, 49, 50, 51, 52, 53, 54, 55, 56, 57, 97, 98, 99, 100, 101, 102, 103, 104, 105, 106, 107, 108, 109, 110, 111, 112, 113, 114, 115, 116, 117, 118, 119, 120, 121, 122]
def dig (n : Nat) : UInt8 := digs.getD n 0
/-- the digits of base 16 -/
def hexA (u : Nat) (acc : List UInt8) : List UInt8 := if h : u < 16 then dig u :: acc else hexA (u / 16) (dig (u % 16) :: acc)
termination_by u
decreasing_by omega
theorem hexA_end {u : Nat} {acc : List UInt8} (h : u < 16) : hexA u acc = dig u :: acc := by rw [hexA, dif_pos h]
theorem hexA_next {u : Nat} {acc : List UInt8} (h : ¬ u < 16) : hexA u acc = hexA (u / 16) (dig (u % 16) :: acc) := by rw [hexA, dif_neg h]
theorem and15 (u : Nat) (h : u < 18446744073709551616) : Value.int .u64 (bits .and .u64 (u : Int) 15) = .int .u64 ((u % 16 : Nat) : Int) := by
  have e : (BitVec.ofInt 64 (u : Int) &&& BitVec.ofInt 64 15).toNat = u % 16 := by
    rw [BitVec.toNat_and]
    have e1 : (BitVec.ofInt 64 (u : Int)).toNat = u := by
      rw [BitVec.ofInt_natCast, BitVec.toNat_ofNat]; exact Nat.mod_eq_of_lt h
    have e2 : (BitVec.ofInt 64 15).toNat = 15 := by decide
    rw [e1, e2, show (15 : Nat) = 2 ^ 4 - 1 from rfl, Nat.and_two_pow_sub_one_eq_mod]
  have e3 : bits .and .u64 (u : Int) 15 = IntKind.u64.wrap (((BitVec.ofInt 64 (u : Int) &&& BitVec.ofInt 64 15).toNat : Nat) : Int) := rfl
  rw [e3, e, wrap_in .u64 _ ⟨by show (0 : Int) ≤ _; omega, by show _ ≤ (18446744073709551615 : Int); omega⟩]
/-- Go's table holds the number of trailing noughts of 16 -/
def TzTab (w : World) : Prop := w.cell? ⟨5, 15, none⟩ = some (.int .u8 4) ∧ 5 < w.heap.size
theorem TzTab.below {w w' : World} (h : TzTab w) (hb : Below w.heap.size w w') : TzTab w' := ⟨(hb.cell h.2).trans h.1, Nat.lt_of_lt_of_le h.2 hb.size⟩
theorem isPow_any (w : World) : Calls Tryz.prog 270 #[.int .i64 16] w fun e w' => e = .returned (.bool true) ∧ Below w.heap.size w w' := by
  refine enter_args (args := [.int .i64 16]) (F := _) Tryz.func270 rfl Tryz.ntmps270 rfl rfl ?_
  intro Rb hRb hRn
  refine tx ?_
  refine sr 1 ?_
  refine sgx ?_
  refine sr 2 ?_
  refine s1 (y_bin rfl rfl rfl (fun hg => b_sub (by omega))) ?_
  refine s1 (y_as (v' := .int .i64 0) (by exact rfl) (y_bin rfl rfl rfl (fun _ => b_and))) ?_
  refine s1 (y_as (v' := .bool true) (by exact rfl) (y_bin rfl rfl rfl (fun _ => b_eql))) ?_
  refine sr 1 ?_
  refine sgo ?_
  refine tr1 hRb fun w hM => ?_
  exact ⟨rfl, hM.below⟩
theorem tz64_any (w : World) (hT : TzTab w) : Calls Tryz.prog 292 #[.int .u64 16] w fun e w' => e = .returned (.int .i64 4) ∧ Below w.heap.size w w' := by
  refine enter_args (args := [.int .u64 16]) (F := _) Tryz.func292 rfl Tryz.ntmps292 rfl rfl ?_
  intro Rb hRb hRn
  refine tx ?_
  refine sr 1 ?_
  refine sgs ?_
  refine tx ?_
  refine sr 2 ?_
  refine sgo ?_
  refine T_cond rfl ?_ ?_ <;> intro h4
  · skip
    exact absurd h4 (by decide)
  refine kgx ?_
  refine sr 2 ?_
  refine s1 (y_as (v' := .int .u64 18446744073709551600) (by exact rfl) (y_neg (_) rfl rfl (fun hg => rfl))) ?_
  refine s1 (y_as (v' := .int .u64 16) (by kernel_rfl) (y_bin rfl rfl rfl (fun _ => b_and))) ?_
  refine s1 (y_as (v' := .int .u64 4573923408821661840) (by kernel_rfl) (y_bin rfl rfl rfl (fun hg => b_mulw))) ?_
  refine s1 (y_bin rfl rfl rfl (fun hg => b_shrv (15) (by decide) (by decide) (by first | (simp; done) | (simp; omega)))) ?_
  refine s1 (y_indexArr (j := 15) rfl rfl rfl Tryz.underlying324 (by decide) sz5 (fun _ => by decide)) ?_
  refine s1 (y_load_far rfl rfl hT.1 hT.2 Tryz.underlying5 rfl) ?_
  refine s1 (y_conv64 rfl rfl Tryz.underlying5 Tryz.underlying3 (fun _ => by omega)) ?_
  refine sr 1 ?_
  refine sgo ?_
  refine tr1 hRb fun w hM => ?_
  exact ⟨rfl, hM.below⟩
theorem tz_any (w : World) (hT : TzTab w) : Calls Tryz.prog 271 #[.int .u64 16] w fun e w' => e = .returned (.int .i64 4) ∧ Below w.heap.size w w' := by
  refine enter_args (args := [.int .u64 16]) (F := _) Tryz.func271 rfl Tryz.ntmps271 rfl rfl ?_
  intro Rb hRb hRn
  refine tx ?_
  refine sr 1 ?_
  refine sgs ?_
  refine T_cond rfl ?_ ?_ <;> intro hNone
  · skip
    cases hNone
  refine kgx ?_
  refine sr 1 ?_
  refine s1 (y_call rfl rfl rfl cf292 (fun _ w hM => tz64_any w (hT.below hM.below))) ?_
  refine sr 1 ?_
  refine sgo ?_
  refine tr1 hRb fun w hM => ?_
  exact ⟨rfl, hM.below⟩
theorem pow_16 {u k : Nat} (h : u < 16 ^ k) (h1 : 16 ≤ u) : u / 16 < 16 ^ (k - 1) ∧ 2 ≤ k := by
  have hk : 2 ≤ k := by
    rcases Nat.lt_or_ge k 2 with h2 | h2
    · have : 16 ^ k ≤ 16 ^ 1 := Nat.pow_le_pow_right (by decide) (by omega)
      omega
    · exact h2
  obtain ⟨j, rfl⟩ : ∃ j, k = j + 1 := ⟨k - 1, by omega⟩
  rw [Nat.pow_succ] at h
  exact ⟨by simp only [Nat.add_sub_cancel]; omega, hk⟩
theorem pow_64 {u k : Nat} (h : u < 16 ^ (16 - k)) : u < 18446744073709551616 := by
  have : 16 ^ (16 - k) ≤ 16 ^ 16 := Nat.pow_le_pow_right (by decide) (by omega)
  have e : (16 : Nat) ^ 16 = 18446744073709551616 := by decide
  omega
theorem formatBits_any (h : Nat) (hh : h < 18446744073709551616) (w : World) (hT : TzTab w) :
    Calls Tryz.prog 226 #[.slice none 0 0, .int .u64 (h : Int), .int .i64 16, .bool false, .bool false] w fun e w' => e = .returned (.tuple #[.slice none 0 0, str (hexA h [])]) ∧ Below w.heap.size w w' := by
  refine enter_args (args := [.slice none 0 0, .int .u64 (h : Int), .int .i64 16, .bool false, .bool false]) (F := _) Tryz.func226 rfl Tryz.ntmps226 rfl rfl ?_
  intro Rb hRb hRn
  refine tx ?_
  refine S_nilSlice 10 (e := 5) (size := 1) ?_
  refine sr 2 ?_
  refine sgs ?_
  refine tx ?_
  refine sr 3 ?_
  refine sg rfl (y_move rfl rfl) ?_
  refine sg rfl (y_bin rfl rfl rfl (fun _ => b_eql)) ?_
  refine s1 (y_or rfl rfl rfl) ?_
  refine sr 1 ?_
  refine sg rfl (y_move rfl rfl) ?_
  refine sg rfl (y_bin rfl rfl rfl (fun _ => b_gtr)) ?_
  refine s1 (y_or rfl rfl rfl) ?_
  refine sgo ?_
  refine T_cond rfl ?_ ?_ <;> intro h28
  · skip
    exact absurd h28 (by decide)
  refine kgx ?_
  refine S_alloc 12 12 rfl rfl rfl rfl z284 ?_
  intro b12
  refine sgx ?_
  refine sr 1 ?_
  refine sgs ?_
  refine tx ?_
  refine sr 1 ?_
  refine sgo ?_
  refine T_cond rfl ?_ ?_ <;> intro h30
  · skip
    cases h30
  refine kgs ?_
  refine tx ?_
  refine sr 1 ?_
  refine s1 (y_call rfl rfl rfl cf270 (fun _ w _ => isPow_any w)) ?_
  refine sgo ?_
  refine T_cond rfl ?_ ?_ <;> intro h34
  · skip
    refine tx ?_
    refine sr 1 ?_
    refine s1 (y_as (v' := .int .u64 16) (by exact rfl) (y_conv rfl rfl Tryz.underlying3 Tryz.underlying214)) ?_
    refine s1 (y_call rfl rfl rfl cf271 (fun _ w hM => tz_any w (hT.below hM.below))) ?_
    refine s1 (y_as (v' := .int .u64 4) (by exact rfl) (y_conv rfl rfl Tryz.underlying3 Tryz.underlying214)) ?_
    refine sr 1 ?_
    refine sgx ?_
    refine sr 1 ?_
    refine s1 (y_as (v' := .int .u64 16) (by exact rfl) (y_conv rfl rfl Tryz.underlying3 Tryz.underlying145)) ?_
    refine sr 1 ?_
    refine sgx ?_
    refine sr 1 ?_
    refine s1 (y_as (v' := .int .u64 16) (by exact rfl) (y_conv rfl rfl Tryz.underlying3 Tryz.underlying214)) ?_
    refine s1 (y_as (v' := .int .u64 15) (by exact rfl) (y_bin rfl rfl rfl (fun hg => b_subw))) ?_
    refine sr 1 ?_
    refine sgs ?_
    refine T_block ?_
    refine lK3 (kf := [(1, 1), (13, 13), (44, 57)]) (kl := [(1, 1), (12, 13), (44, 57)]) (fun (u : Nat) (acc : List UInt8) (cs : List Value) => [(1, true, .int .u64 (u : Int)), (13, true, .int .i64 ((65 - acc.length : Nat) : Int))]) (fun (u : Nat) (acc : List UInt8) (cs : List Value) => [(12, .blk b12 (IsBox cs 284))]) (fun (u : Nat) (acc : List UInt8) (cs : List Value) => hexA h [] = hexA u acc ∧ acc.length ≤ 15 ∧ u < 16 ^ (16 - acc.length) ∧ cs.length = 65 ∧ cs.drop (65 - acc.length) = bytesV acc) (fun (u : Nat) (acc : List UInt8) (cs : List Value) => u) h [] (List.replicate 65 (.int .u8 0)) ?_ ?_ ?_ ?_
    · exact ⟨rfl, by decide, hh, rfl, rfl⟩
    · exact ⟨rfl, rfl, trivial⟩
    · exact ⟨rfl, trivial⟩
    rintro u acc cs ⟨hp1, hp2, hp3, hp4, hp5⟩
    refine T_seq ?_
    refine tx ?_
    refine sr 3 ?_
    refine sgo ?_
    refine T_cond rfl ?_ ?_ <;> intro h46
    · try simp only [nrm] at h46
      have hpw := pow_16 hp3 (by omega)
      have hu64 := pow_64 hp3
      refine kgo ?_
      refine T_block ?_
      refine tx ?_
      refine sr 1 ?_
      refine s1 (y_bin rfl rfl rfl (fun hg => b_subv (((65 - (acc.length + 1) : Nat) : Int)) (by omega) (by omega))) ?_
      refine sr 1 ?_
      refine sgx ?_
      refine sr 3 ?_
      refine s1 (y_as (v' := .int .u64 ((u % 16 : Nat) : Int)) (by exact and15 u hu64) (y_bin rfl rfl rfl (fun _ => b_and))) ?_
      refine s1 (y_index_str (j := u % 16) (s := digs) rfl rfl rfl Tryz.underlying9 (fun _ => Nat.lt_of_lt_of_le (Nat.mod_lt _ (by decide)) (by decide))) ?_
      refine s1 (y_indexArr (j := 65 - (acc.length + 1)) rfl rfl rfl Tryz.underlying284 (by decide) sz5 (fun _ => by omega)) ?_
      refine S_store 12 rfl rfl rfl rfl rfl rfl sz5 rfl (Nat.ble_eq_true_of_le (by rw [hp4]; show 65 - (acc.length + 1) + 1 ≤ 65; omega)) ?_
      refine sgr ?_
      refine sr 2 ?_
      refine s1 (y_bin rfl rfl rfl (fun hg => b_shrv (((u / 16 : Nat) : Int)) (by decide) (by decide) (by first | (simp; done) | (simp; omega)))) ?_
      refine sr 1 ?_
      refine S_nil (nK3 (kf := [(1, 1), (13, 13), (44, 57)]) (kl := [(1, 1), (12, 13), (44, 57)]) (u / 16) (dig (u % 16) :: acc) (spl cs (65 - (acc.length + 1)) [.int .u8 ((dig (u % 16)).toNat : Int)]) ?_ ?_ ?_ ?_)
      · omega
      · exact ⟨by rw [hp1, hexA_next (by omega)], by simp only [List.length_cons]; omega, by have := hpw.1; rw [show 16 - (dig (u % 16) :: acc).length = 16 - acc.length - 1 from by simp only [List.length_cons]; omega]; exact this, by rw [spl_len (by simp; omega), hp4], by simp only [List.length_cons]; rw [spl_drop (by omega), show 65 - (acc.length + 1) + 1 = 65 - acc.length from by omega, hp5]; rfl⟩
      · exact ⟨rfl, rfl, trivial⟩
      · exact ⟨rfl, trivial⟩
    try simp only [nrm] at h46
    have hu64 := pow_64 hp3
    refine egx ?_
    refine sr 1 ?_
    refine s1 (y_bin rfl rfl rfl (fun hg => b_subv (((65 - (acc.length + 1) : Nat) : Int)) (by omega) (by omega))) ?_
    refine sr 1 ?_
    refine sgr ?_
    refine sr 2 ?_
    refine s1 (y_index_str (j := u) (s := digs) rfl rfl rfl Tryz.underlying9 (fun _ => Nat.lt_of_lt_of_le (show u < 16 by omega) (by decide))) ?_
    refine s1 (y_indexArr (j := 65 - (acc.length + 1)) rfl rfl rfl Tryz.underlying284 (by decide) sz5 (fun _ => by omega)) ?_
    refine S_store 12 rfl rfl rfl rfl rfl rfl sz5 rfl (Nat.ble_eq_true_of_le (by rw [hp4]; show 65 - (acc.length + 1) + 1 ≤ 65; omega)) ?_
    refine sgs ?_
    refine tx ?_
    refine sr 1 ?_
    refine sgo ?_
    refine T_cond rfl ?_ ?_ <;> intro h89
    · skip
      cases h89
    refine kgs ?_
    refine tx ?_
    refine sr 1 ?_
    refine sgo ?_
    refine T_cond rfl ?_ ?_ <;> intro h94
    · skip
      cases h94
    refine kgx ?_
    refine sr 1 ?_
    refine s1 (y_sliceArr rfl rfl Tryz.underlying284 sz5 rfl (by omega)) ?_
    refine s1 (y_str_box 12 (dig u :: acc) rfl rfl rfl (by simp only [List.length_cons]; omega) (by show (spl cs (65 - (acc.length + 1)) [_]).drop _ = _; rw [spl_drop (by omega), show 65 - (acc.length + 1) + 1 = 65 - acc.length from by omega, hp5]; rfl) Tryz.underlying71 Tryz.underlying5 Tryz.underlying9) ?_
    refine sr 1 ?_
    refine sgo ?_
    refine tr2 hRb fun w hM => ?_
    exact ⟨by rw [hp1, hexA_end (by omega)], hM.below⟩
  cases h34
theorem hexA_len : ∀ (u : Nat) (acc : List UInt8), acc.length ≤ 15 → u < 16 ^ (16 - acc.length) → (hexA u acc).length ≤ 16 := by
  intro u
  induction u using Nat.strongRecOn with
  | ind u ih =>
    intro acc h1 h2
    by_cases h : u < 16
    · rw [hexA_end h]; simp only [List.length_cons]; omega
    · have hp := pow_16 h2 (by omega)
      rw [hexA_next h]
      exact ih (u / 16) (by omega) _ (by simp only [List.length_cons]; omega) (by rw [show 16 - (dig (u % 16) :: acc).length = 16 - acc.length - 1 from by simp only [List.length_cons]; omega]; exact hp.1)
theorem HasPrefix_any (s p : List UInt8) (w : World) : Calls Tryz.prog 183 #[str s, str p] w fun e w' => e = .returned (.bool (Lib.hasPrefix s p)) ∧ Below w.heap.size w w' :=
  (Tryz.strings_HasPrefix ⟨s.toArray⟩ ⟨p.toArray⟩ w).mono fun e w' h => ⟨by rw [h.1], h.2 ▸ Below.refl _ _⟩
end Go.Proofs.YtgbldojgbpgjbaaGreatDoor
end
section
namespace Go.Proofs.YtgbldojgbpgjbaaGreatDoor
set_option linter.unusedSimpArgs false
set_option linter.unusedVariables false
set_option maxRecDepth 20000
open Go.RowKit Go.Eng
/-- the table of powers of ten lies there -/
def P10 (w : World) : Prop := Lib.TabIs Tryz.prog w "internal/strconv.uint64pow10" .u64 Lib.pow10Tab ∧ 1 < w.heap.size
theorem P10.below {w w' : World} (h : P10 w) (hb : Below w.heap.size w w') : P10 w' := by
  refine ⟨?_, Nat.lt_of_lt_of_le h.2 hb.size⟩
  have e : Tryz.prog.globalNamed "internal/strconv.uint64pow10" = some 1 := by kernel_rfl
  have h1 := h.1
  unfold Lib.TabIs World.var? at h1 ⊢
  rw [e] at h1 ⊢
  simp only [Option.bind_some] at h1 ⊢
  rw [hb.block _ h.2]; exact h1
theorem below_grow0 (w : World) (k : Nat) (os : Array Obj) : Below w.heap.size w (Sort.grow (w.drewN k) os) :=
  ⟨rfl, rfl, rfl, by show w.heap.size ≤ (w.heap ++ os).size; simp, fun j hj => by show (w.heap ++ os)[j]? = w.heap[j]?; rw [Array.getElem?_append, if_pos hj]⟩
theorem Itoa_any (n : Int) (h0 : -9223372036854775808 ≤ n) (h1 : n ≤ 9223372036854775807) (w : World) (hP : P10 w) :
    Calls Tryz.prog 33 #[.int .i64 n] w fun e w' => e = .returned (str (Lib.itoa n)) ∧ Below w.heap.size w w' :=
  (Any.strconv_Itoa Tryz.laysM171 n h0 h1 w hP.1).mono fun e w' ⟨h, k, os, hw⟩ => ⟨h, hw ▸ below_grow0 w k os⟩
theorem TrimDig_any (s : List UInt8) (hs : s.length ≤ 1000000000) (w : World) : Calls Tryz.prog 60 #[str s, str digB] w fun e w' => e = .returned (str (Lib.trimS s digB)) ∧ Below w.heap.size w w' :=
  Any.strings_Trim_laid Tryz.lays160 (by kernel_rfl) ⟨s.toArray⟩ ⟨digB.toArray⟩ w (by rw [Lib.size_eq]; simp; omega) (by decide) (ascii_of_all (by decide))
def plainOk (s : List UInt8) (k : Nat) : Bool := !(decide (s = []) || decide ((k : Int) < s.length) || (decide ((1 : Int) < s.length) && decide (((s.getD 0 0).toNat : Int) = 48)) || !decide (Lib.trimS s digB = []))
def plainJ (s : List UInt8) (k : Nat) : Nat := if plainOk s k = true then valD s else 0
theorem plain_parts {s : List UInt8} {k : Nat} (h : plainOk s k = true) : s ≠ [] ∧ s.length ≤ k ∧ ∀ c ∈ s, 48 ≤ c.toNat ∧ c.toNat ≤ 57 := by
  simp only [plainOk, Bool.not_eq_true', Bool.or_eq_false_iff, decide_eq_false_iff_not, Bool.not_eq_false', decide_eq_true_eq] at h
  obtain ⟨⟨⟨h1, h2⟩, _⟩, h3⟩ := h
  exact ⟨h1, by omega, fun c hc => digB_iff (trimS_nil h3 c hc)⟩
theorem plainNumber_any (s : List UInt8) (k : Nat) (hk : k ≤ 18) (hs : s.length ≤ 1000000000) (w : World) :
    Calls Tryz.prog 173 #[str s, .int .i64 (k : Int)] w fun e w' => e = .returned (.tuple #[.int .i64 ((plainJ s k : Nat) : Int), .bool (plainOk s k)]) ∧ Below w.heap.size w w' := by
  refine enter_args (args := [str s, .int .i64 (k : Int)]) (F := _) Tryz.func173 rfl Tryz.ntmps173 rfl rfl ?_
  intro Rb hRb hRn
  refine tx ?_
  refine sr 2 ?_
  refine sgs ?_
  refine tx ?_
  refine sr 1 ?_
  refine s1 (y_bin rfl rfl rfl (fun _ => b_eqls)) ?_
  refine sr 1 ?_
  refine sg rfl (y_move rfl rfl) ?_
  refine sg rfl (y_len_str rfl rfl Tryz.underlying9) ?_
  refine sg rfl (y_move rfl rfl) ?_
  refine sg rfl (y_bin rfl rfl rfl (fun _ => b_gtr)) ?_
  refine s1 (y_or rfl rfl rfl) ?_
  refine sr 1 ?_
  refine sg rfl (y_move rfl rfl) ?_
  refine sg rfl (y_len_str rfl rfl Tryz.underlying9) ?_
  refine sg rfl (y_bin rfl rfl rfl (fun _ => b_gtr)) ?_
  refine sg rfl (y_move rfl rfl) ?_
  refine sg rfl (y_move rfl rfl) ?_
  refine sg rfl (y_index_str (j := 0) rfl rfl rfl Tryz.underlying9 (fun hg => by simp at hg; omega)) ?_
  refine sg rfl (y_bin rfl rfl rfl (fun _ => b_eql)) ?_
  refine sg rfl (y_and rfl rfl rfl) ?_
  refine s1 (y_or rfl rfl rfl) ?_
  refine sr 1 ?_
  refine sg rfl (y_move rfl rfl) ?_
  refine sg rfl (y_call rfl rfl rfl cf60 (fun _ w _ => TrimDig_any s hs w)) ?_
  refine sg rfl (y_bin rfl rfl rfl (fun _ => b_neqs)) ?_
  refine s1 (y_as (v' := .bool (!plainOk s k)) (by rw [plainOk, Bool.not_not]) (y_or rfl rfl rfl)) ?_
  refine sgo ?_
  refine T_cond rfl ?_ ?_ <;> intro h30
  · skip
    have hn : plainOk s k = false := by simpa using h30
    refine tx ?_
    refine sr 2 ?_
    refine sgo ?_
    refine tr2 hRb fun w hM => ?_
    exact ⟨by rw [plainJ, hn]; rfl, hM.below⟩
  have hn : plainOk s k = true := by simpa using h30
  have hd := plain_parts hn
  refine kgx ?_
  refine sr 1 ?_
  refine s1 (y_call rfl rfl rfl cf227 (fun _ w _ => Atoi_any s hd.1 (by omega) hd.2.2 w)) ?_
  refine sr 5 ?_
  refine sgs ?_
  refine T_draws (by kernel_rfl) (by kernel_rfl) ?_
  refine d1 (y_move rfl rfl) ?_
  refine d1 (y_move rfl rfl) ?_
  refine d1 (y_bin rfl rfl rfl (fun _ => b_eqlII Tryz.underlying75)) ?_
  refine d1 (y_assign rfl rfl) ?_
  refine d1 (y_assign rfl rfl) ?_
  refine dgo ?_
  refine tr2 hRb fun w hM => ?_
  exact ⟨by rw [plainJ, hn]; rfl, hM.below⟩
theorem zero_one {s : List UInt8} (h : s ≠ []) : (decide (((s.getD 0 0).toNat : Int) = 48) && !decide (s = [48])) = (decide ((1 : Int) < s.length) && decide (((s.getD 0 0).toNat : Int) = 48)) := by
  cases s with
  | nil => exact absurd rfl h
  | cons a r =>
    cases r with
    | nil =>
      simp only [List.getD_cons_zero, List.length_cons, List.length_nil, List.cons.injEq, and_true]
      by_cases ha : a = 48
      · subst ha; simp
      · have : ¬ ((a.toNat : Nat) : Int) = 48 := fun e => ha (UInt8.toNat_inj.1 (show a.toNat = 48 by omega))
        simp [ha, this]
    | cons b t =>
      have : (1 : Int) < ((a :: b :: t).length : Nat) := by simp only [List.length_cons]; omega
      rw [decide_eq_true this, decide_eq_false (show ¬ a :: b :: t = [48] by simp)]
      cases decide ((((a :: b :: t).getD 0 0).toNat : Int) = 48) <;> rfl
theorem whole_any (s : List UInt8) (k : Nat) (hk : k ≤ 18) (hs : s.length ≤ 1000000000) (w : World) :
    Calls Tryz.prog 196 #[str s, .int .i64 (k : Int)] w fun e w' => e = .returned (.tuple #[.int .i64 ((plainJ s k : Nat) : Int), .bool (plainOk s k)]) ∧ Below w.heap.size w w' := by
  refine enter_args (args := [str s, .int .i64 (k : Int)]) (F := _) Tryz.func196 rfl Tryz.ntmps196 rfl rfl ?_
  intro Rb hRb hRn
  refine tx ?_
  refine sr 2 ?_
  refine sgs ?_
  refine tx ?_
  refine sr 1 ?_
  refine s1 (y_bin rfl rfl rfl (fun _ => b_eqls)) ?_
  refine sr 1 ?_
  refine sg rfl (y_move rfl rfl) ?_
  refine sg rfl (y_len_str rfl rfl Tryz.underlying9) ?_
  refine sg rfl (y_move rfl rfl) ?_
  refine sg rfl (y_bin rfl rfl rfl (fun _ => b_gtr)) ?_
  refine s1 (y_or rfl rfl rfl) ?_
  refine sr 1 ?_
  refine sg rfl (y_move rfl rfl) ?_
  refine sg rfl (y_call rfl rfl rfl cf60 (fun _ w _ => TrimDig_any s hs w)) ?_
  refine sg rfl (y_bin rfl rfl rfl (fun _ => b_neqs)) ?_
  refine s1 (y_or rfl rfl rfl) ?_
  refine sr 1 ?_
  refine sg rfl (y_move rfl rfl) ?_
  refine sg rfl (y_index_str (j := 0) rfl rfl rfl Tryz.underlying9 (fun hg => List.length_pos_iff.2 (by simp at hg; exact hg.1.1))) ?_
  refine sg rfl (y_bin rfl rfl rfl (fun _ => b_eql)) ?_
  refine sg rfl (y_move rfl rfl) ?_
  refine sg rfl (y_move rfl rfl) ?_
  refine sg rfl (y_bin rfl rfl rfl (fun _ => b_neqs)) ?_
  refine sg rfl (y_and rfl rfl rfl) ?_
  refine S_ 29 rfl rfl rfl _ (y_as (v' := .bool (!plainOk s k)) (by exact congrArg Value.bool (by
    rw [plainOk, Bool.not_not]
    by_cases h : s = []
    · subst h; simp
    · rw [← zero_one h]
      cases decide (s = []) <;> cases decide ((k : Int) < s.length) <;> cases (decide (((s.getD 0 0).toNat : Int) = 48) && !decide (s = [48])) <;> cases decide (Lib.trimS s digB = []) <;> rfl)) (y_or rfl rfl rfl)) ?_
  refine sgo ?_
  refine T_cond rfl ?_ ?_ <;> intro h29
  · skip
    have hn : plainOk s k = false := by simpa using h29
    refine tx ?_
    refine sr 2 ?_
    refine sgo ?_
    refine tr2 hRb fun w hM => ?_
    exact ⟨by rw [plainJ, hn]; rfl, hM.below⟩
  have hn : plainOk s k = true := by simpa using h29
  have hd := plain_parts hn
  refine kgx ?_
  refine sr 1 ?_
  refine s1 (y_call rfl rfl rfl cf227 (fun _ w _ => Atoi_any s hd.1 (by omega) hd.2.2 w)) ?_
  refine sr 5 ?_
  refine sgs ?_
  refine T_draws (by kernel_rfl) (by kernel_rfl) ?_
  refine d1 (y_move rfl rfl) ?_
  refine d1 (y_move rfl rfl) ?_
  refine d1 (y_bin rfl rfl rfl (fun _ => b_eqlII Tryz.underlying75)) ?_
  refine d1 (y_assign rfl rfl) ?_
  refine d1 (y_assign rfl rfl) ?_
  refine dgo ?_
  refine tr2 hRb fun w hM => ?_
  exact ⟨by rw [plainJ, hn]; rfl, hM.below⟩
end Go.Proofs.YtgbldojgbpgjbaaGreatDoor
end
section
namespace Go.Proofs.YtgbldojgbpgjbaaGreatDoor
set_option linter.unusedSimpArgs false
set_option linter.unusedVariables false
set_option maxRecDepth 20000
open Go.RowKit Go.Eng
abbrev marksB : List UInt8 := [40, 41, 58, 44, 33]
/-! ### Numbers of a base -/
def hexV (c : UInt8) : Nat := if c.toNat ≤ 57 then c.toNat - 48 else c.toNat - 87
def digOk (b : Nat) (c : UInt8) : Bool := (decide (48 ≤ c.toNat) && decide (c.toNat ≤ 57)) || (decide (b = 16) && decide (97 ≤ c.toNat) && decide (c.toNat ≤ 102))
def valB (b : Nat) (s : List UInt8) : Nat := s.foldl (fun n c => n * b + hexV c) 0
def numH (b k : Nat) (s : List UInt8) : Bool := !decide (s = []) && decide (s.length ≤ k) && !(decide (1 < s.length) && decide (s.getD 0 0 = 48)) && s.all (digOk b)
def numB (b k : Nat) (s : List UInt8) : Option Nat := if numH b k s = true then some (valB b s) else none
/-! ### The line of a frame -/
def callM (s : List UInt8) : List UInt8 × List UInt8 := if (cutC 33 s).2.2 = true then ((cutC 33 s).1, (cutC 33 s).2.1) else ([], s)
def callOk (s : List UInt8) : Bool := !decide ((callM s).2 = []) && wordOk marksB (callM s).2 && wordOk marksB (callM s).1 && (!decide ((callM s).1 = []) || !(cutC 33 s).2.2)
/-- a word in brackets: a file, and a line -/
def fileQ (w : List UInt8) : Option (List UInt8 × Nat) :=
  let s := w.drop 1
  if Lib.hasSuffix s [41] = false then none else
    let t := s.take (s.length - 1)
    let x := cutC 58 t
    if x.1 = [] ∨ wordOk marks x.1 = false then none
    else if x.2.2 = true then (match numB 10 7 x.2.1 with | some (n + 1) => some (x.1, n + 1) | _ => none) else some (x.1, 0)
structure PPl where
  fi : List UInt8
  ln : Nat
  ad : Int
  own : Bool
def plC (fi : List UInt8) (ln : Nat) (ad : Int) : List (List UInt8) → Option PPl
  | [] => some ⟨fi, ln, ad, false⟩
  | [w] => if w = [42] then some ⟨fi, ln, ad, true⟩ else none
  | _ => none
def plB (fi : List UInt8) (ln : Nat) : List (List UInt8) → Option PPl
  | [] => some ⟨fi, ln, -1, false⟩
  | w :: r => if Lib.hasPrefix w [64] = true then (match numB 16 12 (w.drop 1) with | some n => plC fi ln (n : Int) r | none => none) else plC fi ln (-1) (w :: r)
def placeQ : List (List UInt8) → Option PPl
  | [] => some ⟨[], 0, -1, false⟩
  | w :: r => if Lib.hasPrefix w [40] = true then (match fileQ w with | some (fi, ln) => plB fi ln r | none => none) else plB [] 0 (w :: r)
/-- the words of a line; the first one, and the others -/
def frameQ (s : List UInt8) : Option Frm :=
  match splitC 32 s with
  | [] => none
  | w :: r => if callOk w = true then (placeQ r).map fun p => ⟨(callM w).1, (callM w).2, p.fi, (p.ln : Int), p.ad, p.own⟩ else none
/-! ### The line of a fault -/
def headQ (s : List UInt8) : Option (List UInt8 × List UInt8) :=
  let x := cutC 58 s
  if x.2.2 = false ∨ x.1 = [] ∨ wordOk [58] x.1 = false then none
  else if x.2.1 = [] then some (x.1, []) else if Lib.hasPrefix x.2.1 [32] = true ∧ x.2.1.drop 1 ≠ [] then some (x.1, x.2.1.drop 1) else none
/-! ### Faults, one within another -/
structure PFl where
  k : List UInt8
  t : List UInt8
  fr : List Frm
abbrev atB : List UInt8 := [32, 32, 32, 32, 97, 116, 32]
abbrev dotB : List UInt8 := [32, 32, 32, 32, 46, 46, 46, 32]
abbrev moreB : List UInt8 := [32, 109, 111, 114, 101]
abbrev causeB : List UInt8 := [67, 97, 117, 115, 101, 100, 32, 98, 121, 58, 32]
/-- how many of the outermost frames are equal -/
def shL : List Frm → List Frm → Nat
  | x :: a, y :: b => if Frm.eqB x y = true then shL a b + 1 else 0
  | _, _ => 0
def shQ (a b : List Frm) : Nat := shL a.reverse b.reverse
def begL (ls : List (List UInt8)) (p : List UInt8) : Bool := match ls with
  | [] => false
  | l :: _ => Lib.hasPrefix l p
/-- the lines of frames: those that were taken are acc -/
def frsQ : List (List UInt8) → Nat → List Frm → Nat ⊕ (List Frm × List (List UInt8) × Nat)
  | [], i, acc => .inr (acc, [], i)
  | l :: ls, i, acc => if Lib.hasPrefix l atB = true then (match frameQ (l.drop 7) with | some x => frsQ ls (i + 1) (acc ++ [x]) | none => .inl (i + 1)) else .inr (acc, l :: ls, i)
/-- the line that says how many frames are shared -/
def dotQ (l : List UInt8) : Option Nat := if Lib.hasSuffix (l.drop 8) moreB = true then numB 10 3 ((l.drop 8).take ((l.drop 8).length - 5)) else none
def lastF (b : List PFl) : List Frm := (b.getLast?.map PFl.fr).getD []
def joinF (b : List PFl) (fr : List Frm) (n : Nat) : Option (List Frm) :=
  if b = [] ∨ n < 2 ∨ (lastF b).length < n then none
  else if shQ (lastF b) (fr ++ (lastF b).drop ((lastF b).length - n)) = n then some (fr ++ (lastF b).drop ((lastF b).length - n)) else none
def preQ (b : List PFl) : List UInt8 := if b = [] then [] else causeB
/-- a fault's lines; what is left, and how many were taken; or the number of the wrong line -/
def faultQ (b : List PFl) (tail : List UInt8) (i : Nat) : List (List UInt8) → Nat ⊕ (PFl × List (List UInt8) × Nat)
  | [] => .inl (i + 1)
  | l :: ls =>
    if Lib.hasPrefix l (preQ b) = false then .inl (i + 1) else
      match headQ (l.drop (preQ b).length) with
      | none => .inl (i + 1)
      | some (k, t) =>
        match frsQ ls (i + 1) [] with
        | .inl e => .inl e
        | .inr (fr, ls2, i2) =>
          if begL ls2 dotB = true then
            match (dotQ (ls2.headD [])).bind (joinF b fr) with
            | none => .inl (i2 + 1)
            | some fr' => .inr (⟨k, t, fr'⟩, ls2.tail, i2 + 1)
          else if ls2 = [] ∧ (Lib.hasPrefix tail atB = true ∨ Lib.hasPrefix tail dotB = true) then .inl (i2 + 1)
          else if b ≠ [] ∧ 2 ≤ shQ (lastF b) fr then .inl (i + 2 + fr.length - shQ (lastF b) fr)
          else .inr (⟨k, t, fr⟩, ls2, i2)
def innerQ (tail : List UInt8) : Nat → List PFl → List (List UInt8) → Nat → List PFl ⊕ Nat
  | 0, _, _, _ => .inr 0
  | f + 1, b, ls, i => match faultQ b tail i ls with
    | .inl e => .inr e
    | .inr (x, ls', i') => if ls' = [] then .inl (b ++ [x]) else innerQ tail f (b ++ [x]) ls' i'
end Go.Proofs.YtgbldojgbpgjbaaGreatDoor
end
section
namespace Go.Proofs.YtgbldojgbpgjbaaGreatDoor
set_option linter.unusedSimpArgs false
set_option linter.unusedVariables false
set_option maxRecDepth 20000
open Go.RowKit Go.Eng
theorem dig_val {b : Nat} (hb : b = 10 ∨ b = 16) {c : UInt8} (h : digOk b c = true) : hexV c < b := by
  unfold digOk at h
  unfold hexV
  simp only [Bool.or_eq_true, Bool.and_eq_true, decide_eq_true_eq] at h
  rcases h with h | h
  · rw [if_pos h.2]; rcases hb with rfl | rfl <;> omega
  · have : b = 16 := h.1.1
    subst this
    rw [if_neg (by omega)]; omega
theorem valB_snoc (b : Nat) (s : List UInt8) (c : UInt8) : valB b (s ++ [c]) = valB b s * b + hexV c := by simp [valB, List.foldl_append]
theorem valA_lt {b : Nat} (hb : b = 10 ∨ b = 16) : ∀ (s : List UInt8) (n : Nat), (∀ c ∈ s, digOk b c = true) → s.foldl (fun n c => n * b + hexV c) n < (n + 1) * b ^ s.length
  | [], n, _ => by simp
  | c :: s, n, h => by
    have h1 := valA_lt hb s (n * b + hexV c) fun x hx => h x (List.mem_cons_of_mem _ hx)
    have h2 := dig_val hb (h c List.mem_cons_self)
    have h3 : n * b + hexV c + 1 ≤ (n + 1) * b := by rw [Nat.add_mul, Nat.one_mul]; omega
    have h4 := Nat.mul_le_mul_right (b ^ s.length) h3
    rw [List.foldl_cons, List.length_cons, Nat.pow_succ, Nat.mul_comm (b ^ s.length), ← Nat.mul_assoc]
    exact Nat.lt_of_lt_of_le h1 h4
theorem valB_lt {b : Nat} (hb : b = 10 ∨ b = 16) (s : List UInt8) (h : ∀ c ∈ s, digOk b c = true) : valB b s < b ^ s.length := by
  have := valA_lt hb s 0 h
  simpa [valB] using this
theorem take_getN {s : List UInt8} {i : Nat} (h : i < s.length) : s.take (i + 1) = s.take i ++ [s.getD i 0] := by
  rw [List.getD_eq_getElem?_getD, List.getElem?_eq_getElem h, List.take_succ_eq_append_getElem h]; rfl
theorem getN_mem {s : List UInt8} {i : Nat} (h : i < s.length) : s.getD i 0 ∈ s := by
  rw [List.getD_eq_getElem?_getD, List.getElem?_eq_getElem h]; exact List.getElem_mem h
theorem valB_take {b : Nat} {s : List UInt8} {i : Nat} (h : i < s.length) : valB b (s.take (i + 1)) = valB b (s.take i) * b + hexV (s.getD i 0) := by rw [take_getN h, valB_snoc]
theorem valB_small {b : Nat} (hb : b = 10 ∨ b = 16) {s : List UInt8} (hd : ∀ c ∈ s, digOk b c = true) {i : Nat} (hi : i ≤ 12) : valB b (s.take i) < 281474976710656 := by
  have h1 := valB_lt hb (s.take i) fun c hc => hd c (List.mem_of_mem_take hc)
  have hl : (s.take i).length ≤ 12 := by rw [List.length_take]; omega
  have h2 : b ^ (s.take i).length ≤ b ^ 12 := Nat.pow_le_pow_right (by rcases hb with rfl | rfl <;> decide) hl
  have h3 : b ^ 12 ≤ 281474976710656 := by rcases hb with rfl | rfl <;> decide
  omega
theorem num_parts {b k : Nat} {s : List UInt8} (h : numH b k s = true) : s ≠ [] ∧ s.length ≤ k ∧ ∀ c ∈ s, digOk b c = true := by
  simp only [numH, Bool.and_eq_true, Bool.not_eq_true', decide_eq_false_iff_not, decide_eq_true_eq, List.all_eq_true] at h
  exact ⟨h.1.1.1, h.1.1.2, h.2⟩
theorem lower_all : ∀ n : Nat, n < 256 → bits .or .u8 (n : Int) 32 = ((n ||| 32 : Nat) : Int) := by decide +kernel
theorem low_af {c : UInt8} (h1 : 97 ≤ c.toNat) (h2 : c.toNat ≤ 102) : c.toNat ||| 32 = c.toNat := by
  have key : ∀ n : Nat, n < 256 → 97 ≤ n → n ≤ 102 → n ||| 32 = n := by decide +kernel
  exact key _ (UInt8.toNat_lt c) h1 h2
theorem b_or {P : Program} {t : TypeId} {x y : Operand} {k : IntKind} {m p : Int} : ∀ w, (do eqGuard .or t x y (.int k m) (.int k p); binOp .or t (.int k m) (.int k p) : Sem Value).run P w = .ok (.int k (bits .or k m p)) w := fun w => by
  simp only [eqGuard_or, binOp_or, intBits_or, Sem.run_bind, Sem.run_pure, Result.andThen_ok]
theorem b_shlU {P : Program} {t : TypeId} {x y : Operand} {k' : IntKind} {m p : Int} (h0 : 0 ≤ p) (h1 : p ≤ 64) : ∀ w, (do eqGuard .shl t x y (.int .u64 m) (.int k' p); binOp .shl t (.int .u64 m) (.int k' p) : Sem Value).run P w = .ok (.int .u64 (IntKind.u64.wrap (m * 2 ^ p.toNat))) w := fun w => by
  simp only [eqGuard_shl, binOp_shl, shift_shl .u64 k' m p h0 h1]; rfl
theorem slower_any (c : UInt8) (w : World) : Calls Tryz.prog 317 #[.int .u8 ((c.toNat : Nat) : Int)] w fun e w' => e = .returned (.int .u8 ((c.toNat ||| 32 : Nat) : Int)) ∧ Below w.heap.size w w' := by
  refine enter_args (args := [.int .u8 ((c.toNat : Nat) : Int)]) (F := _) Tryz.func317 rfl Tryz.ntmps317 rfl rfl ?_
  intro Rb hRb hRn
  refine tx ?_
  refine sr 1 ?_
  refine sgx ?_
  refine sr 1 ?_
  refine s1 (y_bin rfl rfl rfl (fun _ => b_or)) ?_
  refine sr 1 ?_
  refine sgo ?_
  refine tr1 hRb fun w hM => ?_
  exact ⟨by rw [lower_all _ (UInt8.toNat_lt c)], hM.below⟩
theorem hex_dig {c : UInt8} (h : (decide ((48 : Int) ≤ ((c.toNat : Nat) : Int)) && decide (((c.toNat : Nat) : Int) ≤ 57)) = true) : 48 ≤ c.toNat ∧ c.toNat ≤ 57 ∧ hexV c = c.toNat - 48 := by
  simp only [Bool.and_eq_true, decide_eq_true_eq] at h
  exact ⟨by omega, by omega, by rw [hexV, if_pos (by omega)]⟩
theorem hex_let {b : Nat} {c : UInt8} (hd : digOk b c = true) (h : (decide ((48 : Int) ≤ ((c.toNat : Nat) : Int)) && decide (((c.toNat : Nat) : Int) ≤ 57)) = false) : b = 16 ∧ 97 ≤ c.toNat ∧ c.toNat ≤ 102 ∧ c.toNat ||| 32 = c.toNat ∧ hexV c = c.toNat - 87 := by
  simp only [Bool.and_eq_false_iff, decide_eq_false_iff_not] at h
  simp only [digOk, Bool.or_eq_true, Bool.and_eq_true, decide_eq_true_eq] at hd
  rcases hd with hd | hd
  · omega
  · exact ⟨hd.1.1, hd.1.2, hd.2, low_af hd.1.2 hd.2, by rw [hexV, if_neg (by omega)]⟩
theorem ParseUint10_any (s : List UInt8) (h0 : s ≠ []) (hl : s.length ≤ 12) (hd : ∀ c ∈ s, digOk 10 c = true) (w : World) :
    Calls Tryz.prog 313 #[str s, .int .i64 10, .int .i64 64] w fun e w' => e = .returned (.tuple #[.int .u64 ((valB 10 s : Nat) : Int), .nilIface]) ∧ Below w.heap.size w w' := by
  have hb : 10 = 10 ∨ 10 = 16 := by decide
  refine enter_args (args := [str s, .int .i64 10, .int .i64 64]) (F := _) Tryz.func313 rfl Tryz.ntmps313 rfl rfl ?_
  intro Rb hRb hRn
  refine tx ?_
  refine sr 2 ?_
  refine sgs ?_
  refine tx ?_
  refine sr 1 ?_
  refine s1 (y_bin rfl rfl rfl (fun _ => b_eqls)) ?_
  refine sgo ?_
  refine T_cond rfl ?_ ?_ <;> intro h19
  · skip
    simp at h19; exact absurd h19 h0
  refine kgx ?_
  refine sr 3 ?_
  refine sgx ?_
  refine sr 2 ?_
  refine sgs ?_
  refine T_block ?_
  refine tx ?_
  refine sr 3 ?_
  refine sg rfl (y_move rfl rfl) ?_
  refine sg rfl (y_bin rfl rfl rfl (fun _ => b_leq)) ?_
  refine s1 (y_and rfl rfl rfl) ?_
  refine sr 1 ?_
  refine sgo ?_
  refine T_cond rfl ?_ ?_ <;> intro h25
  · skip
    refine kgs ?_
    refine tx ?_
    refine sr 2 ?_
    refine sgo ?_
    refine T_cond rfl ?_ ?_ <;> intro h77
    · skip
      simp at h77
    refine tx ?_
    refine sr 3 ?_
    refine sg rfl (y_move rfl rfl) ?_
    refine sg rfl (y_bin rfl rfl rfl (fun _ => b_gtr)) ?_
    refine s1 (y_or rfl rfl rfl) ?_
    refine sgo ?_
    refine T_cond rfl ?_ ?_ <;> intro h83
    · skip
      simp at h83
    refine kgx ?_
    refine sr 1 ?_
    refine sgs ?_
    refine tx ?_
    refine sr 1 ?_
    refine sgo ?_
    refine T_block ?_
    refine tx ?_
    refine sr 2 ?_
    refine sgo ?_
    refine T_cond rfl ?_ ?_ <;> intro h90
    · skip
      refine T_region ?_
      refine sr 1 ?_
      refine sgx ?_
      refine sr 1 ?_
      refine s1 (y_conv rfl rfl Tryz.underlying3 Tryz.underlying214) ?_
      refine s1 (y_as (v' := .int .u64 0) (by exact rfl) (y_bin rfl rfl rfl (fun _ => b_shlU (p := 64) (by decide) (by decide)))) ?_
      refine s1 (y_as (v' := .int .u64 18446744073709551615) (by exact rfl) (y_bin rfl rfl rfl (fun hg => b_subw))) ?_
      refine sr 1 ?_
      refine sgx ?_
      refine sr 1 ?_
      refine sgx ?_
      refine sr 1 ?_
      refine sgs ?_
      refine tx ?_
      refine sr 1 ?_
      refine S_strBytes 99 99 rfl rfl rfl rfl rfl Tryz.underlying9 Tryz.underlying71 Tryz.underlying5 ?_
      intro b99 c99
      refine s1 (y_len_slice rfl rfl Tryz.underlying71) ?_
      refine sr 1 ?_
      refine sgo ?_
      refine T_block ?_
      refine lK1 (kf := [(6, 7), (12, 13), (15, 17), (101, 163)]) (kl := [(6, 7), (12, 13), (15, 17), (101, 163)]) (fun (i : Nat) => [(101, true, .int .i64 (i : Int)), (12, true, .bool false), (13, true, .int .u64 ((valB 10 (s.take i) : Nat) : Int))]) (fun (i : Nat) => []) (fun (i : Nat) => i ≤ s.length) (fun (i : Nat) => s.length - i) 0 ?_ ?_ ?_ ?_
      · omega
      · exact ⟨rfl, rfl, rfl, trivial⟩
      · exact trivial
      rintro i hp1
      refine tx ?_
      refine sr 1 ?_
      refine sgs ?_
      refine T_cond rfl ?_ ?_ <;> intro h102
      · try simp only [nrm] at h102
        have hlt : i < s.length := by omega
        have hdi := hd _ (getN_mem hlt)
        have hdv := dig_val hb hdi
        have hvi := valB_small hb hd (i := i) (by omega)
        have hvn := valB_small hb hd (i := i + 1) (by omega)
        have hvt := valB_take (b := 10) hlt
        refine kgs ?_
        refine T_block ?_
        refine tx ?_
        refine s1 (y_indexAddr rfl rfl rfl Tryz.underlying71 sz5 (fun _ => rfl) (fun _ => by omega)) ?_
        refine s1 (y_loadRd 99 rfl rfl rfl (fun _ => bytesV_at (by omega)) Tryz.underlying5 rfl) ?_
        refine sr 1 ?_
        refine sgx ?_
        refine sr 1 ?_
        refine sgs ?_
        refine T_block ?_
        refine tx ?_
        refine sr 3 ?_
        refine sg rfl (y_move rfl rfl) ?_
        refine s1 (y_and rfl rfl rfl) ?_
        refine sr 1 ?_
        refine sgo ?_
        refine T_cond rfl ?_ ?_ <;> intro h106
        · skip
          simp at h106
        refine tx ?_
        refine sr 3 ?_
        refine sg rfl (y_move rfl rfl) ?_
        refine sg rfl (y_bin rfl rfl rfl (fun _ => b_leq)) ?_
        refine s1 (y_and rfl rfl rfl) ?_
        refine sr 1 ?_
        refine sgo ?_
        refine T_mid (kf := [(6, 7), (16, 16), (105, 105), (119, 133)]) (kl := [(6, 7), (16, 16), (105, 105), (119, 133)]) (fun u : Unit => [(16, true, .int .u8 ((hexV (s.getD i 0) : Nat) : Int))]) (fun u : Unit => []) (by repeat (first | exact kf_nil | (apply kf_in; focus rfl) | (apply kf_out; focus rfl))) (by repeat (first | exact kl_nil | exact kl_rest (by assumption) rfl | (apply kl_in; focus rfl) | (apply kl_out; focus rfl))) ?_ ?_
        · skip
          refine T_cond rfl ?_ ?_ <;> intro h112
          · skip
            obtain ⟨g1, g2, g3⟩ := hex_dig h112
            refine T_region ?_
            refine sr 1 ?_
            refine s1 (y_as (v' := .int .u8 ((hexV (s.getD i 0) : Nat) : Int)) (by rw [wrap8_in (by omega)]; congr 1; omega) (y_bin rfl rfl rfl (fun hg => b_subw))) ?_
            refine sr 1 ?_
            refine S_nil (mid_end (kf := [(6, 7), (16, 16), (105, 105), (119, 133)]) (kl := [(6, 7), (16, 16), (105, 105), (119, 133)]) (()) (by repeat (first | exact kf_nil | (apply kf_in; focus rfl) | (apply kf_out; focus rfl))) (by repeat (first | exact kl_nil | exact kl_rest (by assumption) rfl | (apply kl_in; focus rfl) | (apply kl_out; focus rfl))) ?_ ?_)
            · exact ⟨rfl, trivial⟩
            · exact trivial
          obtain ⟨g0, g1, g2, g3, g4⟩ := hex_let hdi h112
          refine tx ?_
          refine sr 1 ?_
          refine s1 (y_call rfl rfl rfl cf317 (fun _ w _ => slower_any _ w)) ?_
          refine sr 2 ?_
          refine sg rfl (y_move rfl rfl) ?_
          refine sg rfl (y_call rfl rfl rfl cf317 (fun _ w _ => slower_any _ w)) ?_
          refine sg rfl (y_bin rfl rfl rfl (fun _ => b_leq)) ?_
          refine s1 (y_and rfl rfl rfl) ?_
          refine sr 1 ?_
          refine sgo ?_
          refine T_cond rfl ?_ ?_ <;> intro h121
          · skip
            refine T_region ?_
            refine sr 1 ?_
            refine s1 (y_call rfl rfl rfl cf317 (fun _ w _ => slower_any _ w)) ?_
            refine s1 (y_as (v' := .int .u8 (((s.getD i 0).toNat - 97 : Nat) : Int)) (by rw [g3, wrap8_in (by omega)]; congr 1; omega) (y_bin rfl rfl rfl (fun hg => b_subw))) ?_
            refine s1 (y_as (v' := .int .u8 ((hexV (s.getD i 0) : Nat) : Int)) (by rw [wrap8_in (by omega)]; congr 1; omega) (y_bin rfl rfl rfl (fun hg => b_addw))) ?_
            refine sr 1 ?_
            refine S_nil (mid_end (kf := [(6, 7), (16, 16), (105, 105), (119, 133)]) (kl := [(6, 7), (16, 16), (105, 105), (119, 133)]) (()) (by repeat (first | exact kf_nil | (apply kf_in; focus rfl) | (apply kf_out; focus rfl))) (by repeat (first | exact kl_nil | exact kl_rest (by assumption) rfl | (apply kl_in; focus rfl) | (apply kl_out; focus rfl))) ?_ ?_)
            · exact ⟨rfl, trivial⟩
            · exact trivial
          rw [g3] at h121; simp only [Bool.and_eq_false_iff, decide_eq_false_iff_not] at h121; omega
        intro u
        refine sgs ?_
        refine tx ?_
        refine sr 2 ?_
        refine s1 (y_as (v' := .int .u8 10) (by exact rfl) (y_conv rfl rfl Tryz.underlying3 Tryz.underlying5)) ?_
        refine sr 1 ?_
        refine sgo ?_
        refine T_cond rfl ?_ ?_ <;> intro h137
        · skip
          simp only [decide_eq_true_eq] at h137; omega
        refine kgs ?_
        refine tx ?_
        refine sr 3 ?_
        refine sgo ?_
        refine T_cond rfl ?_ ?_ <;> intro h141
        · skip
          simp only [decide_eq_true_eq] at h141; omega
        refine kgx ?_
        refine sr 2 ?_
        refine s1 (y_as (v' := .int .u64 10) (by exact rfl) (y_conv rfl rfl Tryz.underlying3 Tryz.underlying145)) ?_
        refine s1 (y_as (v' := .int .u64 ((valB 10 (s.take i) * 10 : Nat) : Int)) (by congr 1; rw [IntWalk.u64_in _ (by omega)]; omega) (y_bin rfl rfl rfl (fun hg => b_mulw))) ?_
        refine sr 1 ?_
        refine sgx ?_
        refine sr 2 ?_
        refine s1 (y_as (v' := .int .u64 ((hexV (s.getD i 0) : Nat) : Int)) (by rw [IntWalk.u64_in _ (by omega)]) (y_conv rfl rfl Tryz.underlying5 Tryz.underlying145)) ?_
        refine s1 (y_as (v' := .int .u64 ((valB 10 (s.take (i + 1)) : Nat) : Int)) (by congr 1; rw [IntWalk.u64_in _ (by omega)]; omega) (y_bin rfl rfl rfl (fun hg => b_addw))) ?_
        refine sr 1 ?_
        refine sgs ?_
        refine tx ?_
        refine sr 4 ?_
        refine sg rfl (y_move rfl rfl) ?_
        refine sg rfl (y_move rfl rfl) ?_
        refine sg rfl (y_bin rfl rfl rfl (fun _ => b_gtr)) ?_
        refine s1 (y_or rfl rfl rfl) ?_
        refine sgo ?_
        refine T_cond rfl ?_ ?_ <;> intro h159
        · skip
          simp only [Bool.or_eq_true, decide_eq_true_eq] at h159; omega
        refine kgr ?_
        refine sr 2 ?_
        refine sgr ?_
        refine s1 (y_bin rfl rfl rfl (fun hg => b_add (by omega))) ?_
        refine sr 1 ?_
        refine S_nil (nK1 (kf := [(6, 7), (12, 13), (15, 17), (101, 163)]) (kl := [(6, 7), (12, 13), (15, 17), (101, 163)]) (i + 1) ?_ ?_ ?_ ?_)
        · omega
        · omega
        · exact ⟨rfl, rfl, rfl, trivial⟩
        · exact trivial
      try simp only [nrm] at h102
      refine egs ?_
      refine tx ?_
      refine sr 2 ?_
      refine sg rfl (y_move rfl rfl) ?_
      refine sg rfl (y_call rfl rfl rfl cf318 (fun hg w _ => (show Calls Tryz.prog 318 #[str s] w (fun e w2 => e = .returned (.bool true) ∧ Below w.heap.size w w2) from by simp at hg))) ?_
      refine sg rfl (y_not rfl rfl) ?_
      refine s1 (y_and rfl rfl rfl) ?_
      refine sgo ?_
      refine T_cond rfl ?_ ?_ <;> intro h169
      · skip
        simp at h169
      refine kgx ?_
      refine sr 3 ?_
      refine sgo ?_
      refine tr2 hRb fun w hM => ?_
      have hsi : s.take i = s := List.take_of_length_le (by omega)
      exact ⟨by rw [hsi], hM.below⟩
    simp at h90
  simp at h25
theorem ParseUint16_any (s : List UInt8) (h0 : s ≠ []) (hl : s.length ≤ 12) (hd : ∀ c ∈ s, digOk 16 c = true) (w : World) :
    Calls Tryz.prog 313 #[str s, .int .i64 16, .int .i64 64] w fun e w' => e = .returned (.tuple #[.int .u64 ((valB 16 s : Nat) : Int), .nilIface]) ∧ Below w.heap.size w w' := by
  have hb : 16 = 10 ∨ 16 = 16 := by decide
  refine enter_args (args := [str s, .int .i64 16, .int .i64 64]) (F := _) Tryz.func313 rfl Tryz.ntmps313 rfl rfl ?_
  intro Rb hRb hRn
  refine tx ?_
  refine sr 2 ?_
  refine sgs ?_
  refine tx ?_
  refine sr 1 ?_
  refine s1 (y_bin rfl rfl rfl (fun _ => b_eqls)) ?_
  refine sgo ?_
  refine T_cond rfl ?_ ?_ <;> intro h19
  · skip
    simp at h19; exact absurd h19 h0
  refine kgx ?_
  refine sr 3 ?_
  refine sgx ?_
  refine sr 2 ?_
  refine sgs ?_
  refine T_block ?_
  refine tx ?_
  refine sr 3 ?_
  refine sg rfl (y_move rfl rfl) ?_
  refine sg rfl (y_bin rfl rfl rfl (fun _ => b_leq)) ?_
  refine s1 (y_and rfl rfl rfl) ?_
  refine sr 1 ?_
  refine sgo ?_
  refine T_cond rfl ?_ ?_ <;> intro h25
  · skip
    refine kgs ?_
    refine tx ?_
    refine sr 2 ?_
    refine sgo ?_
    refine T_cond rfl ?_ ?_ <;> intro h77
    · skip
      simp at h77
    refine tx ?_
    refine sr 3 ?_
    refine sg rfl (y_move rfl rfl) ?_
    refine sg rfl (y_bin rfl rfl rfl (fun _ => b_gtr)) ?_
    refine s1 (y_or rfl rfl rfl) ?_
    refine sgo ?_
    refine T_cond rfl ?_ ?_ <;> intro h83
    · skip
      simp at h83
    refine kgx ?_
    refine sr 1 ?_
    refine sgs ?_
    refine tx ?_
    refine sr 1 ?_
    refine sgo ?_
    refine T_block ?_
    refine tx ?_
    refine sr 2 ?_
    refine sgo ?_
    refine T_cond rfl ?_ ?_ <;> intro h90
    · skip
      simp at h90
    refine tx ?_
    refine sr 2 ?_
    refine sgo ?_
    refine T_cond rfl ?_ ?_ <;> intro h92
    · skip
      refine T_region ?_
      refine sr 1 ?_
      refine sgx ?_
      refine sr 1 ?_
      refine s1 (y_conv rfl rfl Tryz.underlying3 Tryz.underlying214) ?_
      refine s1 (y_as (v' := .int .u64 0) (by exact rfl) (y_bin rfl rfl rfl (fun _ => b_shlU (p := 64) (by decide) (by decide)))) ?_
      refine s1 (y_as (v' := .int .u64 18446744073709551615) (by exact rfl) (y_bin rfl rfl rfl (fun hg => b_subw))) ?_
      refine sr 1 ?_
      refine sgx ?_
      refine sr 1 ?_
      refine sgx ?_
      refine sr 1 ?_
      refine sgs ?_
      refine tx ?_
      refine sr 1 ?_
      refine S_strBytes 99 99 rfl rfl rfl rfl rfl Tryz.underlying9 Tryz.underlying71 Tryz.underlying5 ?_
      intro b99 c99
      refine s1 (y_len_slice rfl rfl Tryz.underlying71) ?_
      refine sr 1 ?_
      refine sgo ?_
      refine T_block ?_
      refine lK1 (kf := [(6, 7), (12, 13), (15, 17), (101, 163)]) (kl := [(6, 7), (12, 13), (15, 17), (101, 163)]) (fun (i : Nat) => [(101, true, .int .i64 (i : Int)), (12, true, .bool false), (13, true, .int .u64 ((valB 16 (s.take i) : Nat) : Int))]) (fun (i : Nat) => []) (fun (i : Nat) => i ≤ s.length) (fun (i : Nat) => s.length - i) 0 ?_ ?_ ?_ ?_
      · omega
      · exact ⟨rfl, rfl, rfl, trivial⟩
      · exact trivial
      rintro i hp1
      refine tx ?_
      refine sr 1 ?_
      refine sgs ?_
      refine T_cond rfl ?_ ?_ <;> intro h102
      · try simp only [nrm] at h102
        have hlt : i < s.length := by omega
        have hdi := hd _ (getN_mem hlt)
        have hdv := dig_val hb hdi
        have hvi := valB_small hb hd (i := i) (by omega)
        have hvn := valB_small hb hd (i := i + 1) (by omega)
        have hvt := valB_take (b := 16) hlt
        refine kgs ?_
        refine T_block ?_
        refine tx ?_
        refine s1 (y_indexAddr rfl rfl rfl Tryz.underlying71 sz5 (fun _ => rfl) (fun _ => by omega)) ?_
        refine s1 (y_loadRd 99 rfl rfl rfl (fun _ => bytesV_at (by omega)) Tryz.underlying5 rfl) ?_
        refine sr 1 ?_
        refine sgx ?_
        refine sr 1 ?_
        refine sgs ?_
        refine T_block ?_
        refine tx ?_
        refine sr 3 ?_
        refine sg rfl (y_move rfl rfl) ?_
        refine s1 (y_and rfl rfl rfl) ?_
        refine sr 1 ?_
        refine sgo ?_
        refine T_cond rfl ?_ ?_ <;> intro h106
        · skip
          simp at h106
        refine tx ?_
        refine sr 3 ?_
        refine sg rfl (y_move rfl rfl) ?_
        refine sg rfl (y_bin rfl rfl rfl (fun _ => b_leq)) ?_
        refine s1 (y_and rfl rfl rfl) ?_
        refine sr 1 ?_
        refine sgo ?_
        refine T_mid (kf := [(6, 7), (16, 16), (105, 105), (119, 133)]) (kl := [(6, 7), (16, 16), (105, 105), (119, 133)]) (fun u : Unit => [(16, true, .int .u8 ((hexV (s.getD i 0) : Nat) : Int))]) (fun u : Unit => []) (by repeat (first | exact kf_nil | (apply kf_in; focus rfl) | (apply kf_out; focus rfl))) (by repeat (first | exact kl_nil | exact kl_rest (by assumption) rfl | (apply kl_in; focus rfl) | (apply kl_out; focus rfl))) ?_ ?_
        · skip
          refine T_cond rfl ?_ ?_ <;> intro h112
          · skip
            obtain ⟨g1, g2, g3⟩ := hex_dig h112
            refine T_region ?_
            refine sr 1 ?_
            refine s1 (y_as (v' := .int .u8 ((hexV (s.getD i 0) : Nat) : Int)) (by rw [wrap8_in (by omega)]; congr 1; omega) (y_bin rfl rfl rfl (fun hg => b_subw))) ?_
            refine sr 1 ?_
            refine S_nil (mid_end (kf := [(6, 7), (16, 16), (105, 105), (119, 133)]) (kl := [(6, 7), (16, 16), (105, 105), (119, 133)]) (()) (by repeat (first | exact kf_nil | (apply kf_in; focus rfl) | (apply kf_out; focus rfl))) (by repeat (first | exact kl_nil | exact kl_rest (by assumption) rfl | (apply kl_in; focus rfl) | (apply kl_out; focus rfl))) ?_ ?_)
            · exact ⟨rfl, trivial⟩
            · exact trivial
          obtain ⟨g0, g1, g2, g3, g4⟩ := hex_let hdi h112
          refine tx ?_
          refine sr 1 ?_
          refine s1 (y_call rfl rfl rfl cf317 (fun _ w _ => slower_any _ w)) ?_
          refine sr 2 ?_
          refine sg rfl (y_move rfl rfl) ?_
          refine sg rfl (y_call rfl rfl rfl cf317 (fun _ w _ => slower_any _ w)) ?_
          refine sg rfl (y_bin rfl rfl rfl (fun _ => b_leq)) ?_
          refine s1 (y_and rfl rfl rfl) ?_
          refine sr 1 ?_
          refine sgo ?_
          refine T_cond rfl ?_ ?_ <;> intro h121
          · skip
            refine T_region ?_
            refine sr 1 ?_
            refine s1 (y_call rfl rfl rfl cf317 (fun _ w _ => slower_any _ w)) ?_
            refine s1 (y_as (v' := .int .u8 (((s.getD i 0).toNat - 97 : Nat) : Int)) (by rw [g3, wrap8_in (by omega)]; congr 1; omega) (y_bin rfl rfl rfl (fun hg => b_subw))) ?_
            refine s1 (y_as (v' := .int .u8 ((hexV (s.getD i 0) : Nat) : Int)) (by rw [wrap8_in (by omega)]; congr 1; omega) (y_bin rfl rfl rfl (fun hg => b_addw))) ?_
            refine sr 1 ?_
            refine S_nil (mid_end (kf := [(6, 7), (16, 16), (105, 105), (119, 133)]) (kl := [(6, 7), (16, 16), (105, 105), (119, 133)]) (()) (by repeat (first | exact kf_nil | (apply kf_in; focus rfl) | (apply kf_out; focus rfl))) (by repeat (first | exact kl_nil | exact kl_rest (by assumption) rfl | (apply kl_in; focus rfl) | (apply kl_out; focus rfl))) ?_ ?_)
            · exact ⟨rfl, trivial⟩
            · exact trivial
          rw [g3] at h121; simp only [Bool.and_eq_false_iff, decide_eq_false_iff_not] at h121; omega
        intro u
        refine sgs ?_
        refine tx ?_
        refine sr 2 ?_
        refine s1 (y_as (v' := .int .u8 16) (by exact rfl) (y_conv rfl rfl Tryz.underlying3 Tryz.underlying5)) ?_
        refine sr 1 ?_
        refine sgo ?_
        refine T_cond rfl ?_ ?_ <;> intro h137
        · skip
          simp only [decide_eq_true_eq] at h137; omega
        refine kgs ?_
        refine tx ?_
        refine sr 3 ?_
        refine sgo ?_
        refine T_cond rfl ?_ ?_ <;> intro h141
        · skip
          simp only [decide_eq_true_eq] at h141; omega
        refine kgx ?_
        refine sr 2 ?_
        refine s1 (y_as (v' := .int .u64 16) (by exact rfl) (y_conv rfl rfl Tryz.underlying3 Tryz.underlying145)) ?_
        refine s1 (y_as (v' := .int .u64 ((valB 16 (s.take i) * 16 : Nat) : Int)) (by congr 1; rw [IntWalk.u64_in _ (by omega)]; omega) (y_bin rfl rfl rfl (fun hg => b_mulw))) ?_
        refine sr 1 ?_
        refine sgx ?_
        refine sr 2 ?_
        refine s1 (y_as (v' := .int .u64 ((hexV (s.getD i 0) : Nat) : Int)) (by rw [IntWalk.u64_in _ (by omega)]) (y_conv rfl rfl Tryz.underlying5 Tryz.underlying145)) ?_
        refine s1 (y_as (v' := .int .u64 ((valB 16 (s.take (i + 1)) : Nat) : Int)) (by congr 1; rw [IntWalk.u64_in _ (by omega)]; omega) (y_bin rfl rfl rfl (fun hg => b_addw))) ?_
        refine sr 1 ?_
        refine sgs ?_
        refine tx ?_
        refine sr 4 ?_
        refine sg rfl (y_move rfl rfl) ?_
        refine sg rfl (y_move rfl rfl) ?_
        refine sg rfl (y_bin rfl rfl rfl (fun _ => b_gtr)) ?_
        refine s1 (y_or rfl rfl rfl) ?_
        refine sgo ?_
        refine T_cond rfl ?_ ?_ <;> intro h159
        · skip
          simp only [Bool.or_eq_true, decide_eq_true_eq] at h159; omega
        refine kgr ?_
        refine sr 2 ?_
        refine sgr ?_
        refine s1 (y_bin rfl rfl rfl (fun hg => b_add (by omega))) ?_
        refine sr 1 ?_
        refine S_nil (nK1 (kf := [(6, 7), (12, 13), (15, 17), (101, 163)]) (kl := [(6, 7), (12, 13), (15, 17), (101, 163)]) (i + 1) ?_ ?_ ?_ ?_)
        · omega
        · omega
        · exact ⟨rfl, rfl, rfl, trivial⟩
        · exact trivial
      try simp only [nrm] at h102
      refine egs ?_
      refine tx ?_
      refine sr 2 ?_
      refine sg rfl (y_move rfl rfl) ?_
      refine sg rfl (y_call rfl rfl rfl cf318 (fun hg w _ => (show Calls Tryz.prog 318 #[str s] w (fun e w2 => e = .returned (.bool true) ∧ Below w.heap.size w w2) from by simp at hg))) ?_
      refine sg rfl (y_not rfl rfl) ?_
      refine s1 (y_and rfl rfl rfl) ?_
      refine sgo ?_
      refine T_cond rfl ?_ ?_ <;> intro h169
      · skip
        simp at h169
      refine kgx ?_
      refine sr 3 ?_
      refine sgo ?_
      refine tr2 hRb fun w hM => ?_
      have hsi : s.take i = s := List.take_of_length_le (by omega)
      exact ⟨by rw [hsi], hM.below⟩
    simp at h92
  simp at h25
theorem y_never {P : Program} {w0 : World} {F : FL} {L : HL} {g : Bool} {o : Oper} (v : Value) (h : ¬ g = true) : Y P w0 F L g o v := fun _ _ _ hg => absurd hg h
theorem dropWhile_allN {p : UInt8 → Bool} : ∀ {l : List UInt8}, (∀ c ∈ l, p c = true) → l.dropWhile p = []
  | [], _ => rfl
  | a :: r, h => by rw [List.dropWhile_cons, if_pos (h a List.mem_cons_self), dropWhile_allN fun c hc => h c (List.mem_cons_of_mem _ hc)]
theorem trimS_allN {s cs : List UInt8} (h : ∀ c ∈ s, cs.contains c = true) : Lib.trimS s cs = [] := by
  have h2 : s.reverse.dropWhile (cs.contains ·) = [] := dropWhile_allN fun c hc => h c (List.mem_reverse.1 hc)
  have h3 : Lib.trimRightS s cs = [] := by unfold Lib.trimRightS; rw [h2]; rfl
  unfold Lib.trimS; rw [h3]; rfl
theorem all_trimN (s cs : List UInt8) : decide (Lib.trimS s cs = []) = s.all fun c => cs.contains c := by
  by_cases h : Lib.trimS s cs = []
  · rw [decide_eq_true h]
    exact (List.all_eq_true.2 (trimS_nil h)).symm
  · rw [decide_eq_false h]
    cases hq : s.all fun c => cs.contains c with
    | false => rfl
    | true => exact absurd (trimS_allN (List.all_eq_true.1 hq)) h
theorem dig10 (c : UInt8) : digB.contains c = digOk 10 c := by
  have key : ∀ n : Nat, n < 256 → digB.contains (UInt8.ofNat n) = digOk 10 (UInt8.ofNat n) := by decide +kernel
  have := key c.toNat (UInt8.toNat_lt c)
  rwa [UInt8.ofNat_toNat] at this
theorem dig16 (c : UInt8) : hexs.contains c = digOk 16 c := by
  have key : ∀ n : Nat, n < 256 → hexs.contains (UInt8.ofNat n) = digOk 16 (UInt8.ofNat n) := by decide +kernel
  have := key c.toNat (UInt8.toNat_lt c)
  rwa [UInt8.ofNat_toNat] at this
theorem byte48 (c : UInt8) : decide (((c.toNat : Nat) : Int) = 48) = decide (c = 48) := decide_eq_decide.2 ⟨fun h => UInt8.toNat_inj.1 (by show c.toNat = 48; omega), fun h => by rw [h]; rfl⟩
def num1 (k : Nat) (s : List UInt8) : Bool := decide (s = []) || decide ((k : Int) < ((s.length : Nat) : Int)) || (decide ((1 : Int) < ((s.length : Nat) : Int)) && decide ((((s.getD 0 0).toNat : Nat) : Int) = 48))
theorem num1_len {k : Nat} {s : List UInt8} (h : num1 k s = false) : s.length ≤ k := by
  unfold num1 at h
  simp only [Bool.or_eq_false_iff, decide_eq_false_iff_not] at h
  have := h.1.2; omega
theorem num1_t {b k : Nat} {s : List UInt8} (h : num1 k s = true) : numB b k s = none := by
  unfold num1 at h
  rw [byte48] at h
  simp only [Bool.or_eq_true, Bool.and_eq_true, decide_eq_true_eq] at h
  unfold numB numH
  rcases h with (h | h) | h
  · simp [h]
  · rw [decide_eq_false (show ¬ s.length ≤ k by omega)]; simp
  · rw [decide_eq_true (show 1 < s.length by omega), decide_eq_true h.2]; simp
theorem num1_f {b k : Nat} {s : List UInt8} (h : num1 k s = false) : numH b k s = s.all (digOk b) := by
  unfold num1 at h
  rw [byte48] at h
  simp only [Bool.or_eq_false_iff, Bool.and_eq_false_iff, decide_eq_false_iff_not] at h
  unfold numH
  rw [decide_eq_false h.1.1, decide_eq_true (show s.length ≤ k by omega)]
  rcases h.2 with h2 | h2
  · rw [decide_eq_false (show ¬ 1 < s.length by omega)]; rfl
  · rw [decide_eq_false h2]; simp
theorem iParseInt10_any (s : List UInt8) (h0 : s ≠ []) (hl : s.length ≤ 12) (hd : ∀ c ∈ s, digOk 10 c = true) (w : World) :
    Calls Tryz.prog 293 #[str s, .int .i64 10, .int .i64 64] w fun e w' => e = .returned (.tuple #[.int .i64 ((valB 10 s : Nat) : Int), .nilIface]) ∧ Below w.heap.size w w' := by
  have hb : 10 = 10 ∨ 10 = 16 := by decide
  have hlt : 0 < s.length := List.length_pos_iff.2 h0
  have hd0 := hd _ (getN_mem hlt)
  have hge : 48 ≤ (s.getD 0 0).toNat := by
    simp only [digOk, Bool.or_eq_true, Bool.and_eq_true, decide_eq_true_eq] at hd0
    omega
  have hv := valB_small hb hd (i := s.length) hl
  rw [List.take_length] at hv
  refine enter_args (args := [str s, .int .i64 10, .int .i64 64]) (F := _) Tryz.func293 rfl Tryz.ntmps293 rfl rfl ?_
  intro Rb hRb hRn
  refine tx ?_
  refine sr 2 ?_
  refine sgs ?_
  refine tx ?_
  refine sr 1 ?_
  refine s1 (y_bin rfl rfl rfl (fun _ => b_eqls)) ?_
  refine sgo ?_
  refine T_cond rfl ?_ ?_ <;> intro h13
  · skip
    simp at h13; exact absurd h13 h0
  refine kgx ?_
  refine sr 1 ?_
  refine sgs ?_
  refine tx ?_
  refine sr 1 ?_
  refine s1 (y_index_str (j := 0) rfl rfl rfl Tryz.underlying9 (fun _ => hlt)) ?_
  refine sgo ?_
  refine T_block ?_
  refine tx ?_
  refine sr 2 ?_
  refine sgo ?_
  refine T_cond rfl ?_ ?_ <;> intro h17
  · skip
    simp only [decide_eq_true_eq] at h17; omega
  refine tx ?_
  refine sr 2 ?_
  refine sgo ?_
  refine T_cond rfl ?_ ?_ <;> intro h21
  · skip
    simp only [decide_eq_true_eq] at h21; omega
  refine kgx ?_
  refine sr 1 ?_
  refine sgx ?_
  refine sr 3 ?_
  refine s1 (y_call rfl rfl rfl cf313 (fun _ w _ => ParseUint10_any s h0 hl hd w)) ?_
  refine sr 5 ?_
  refine sgs ?_
  refine tx ?_
  refine sr 1 ?_
  refine s1 (y_bin rfl rfl rfl (fun _ => b_neqII Tryz.underlying75)) ?_
  refine sr 1 ?_
  refine sg rfl (y_move rfl rfl) ?_
  refine sg rfl (y_makeIfaceN rfl rfl Tryz.underlying315) ?_
  refine sg rfl (y_never (.bool true) (by simp)) ?_
  refine s1 (y_and rfl rfl rfl) ?_
  refine sgo ?_
  refine T_cond rfl ?_ ?_ <;> intro h38
  · skip
    simp at h38
  refine kgs ?_
  refine tx ?_
  refine sr 2 ?_
  refine sgo ?_
  refine T_cond rfl ?_ ?_ <;> intro h41
  · skip
    simp at h41
  refine kgx ?_
  refine sr 1 ?_
  refine s1 (y_bin rfl rfl rfl (fun hg => b_sub (by omega))) ?_
  refine s1 (y_conv rfl rfl Tryz.underlying3 Tryz.underlying214) ?_
  refine s1 (y_as (v' := .int .u64 9223372036854775808) (by exact rfl) (y_bin rfl rfl rfl (fun _ => b_shlU (p := 63) (by decide) (by decide)))) ?_
  refine sr 1 ?_
  refine sgs ?_
  refine tx ?_
  refine sr 3 ?_
  refine sg rfl (y_move rfl rfl) ?_
  refine sg rfl (y_move rfl rfl) ?_
  refine sg rfl (y_bin rfl rfl rfl (fun _ => b_geq)) ?_
  refine s1 (y_and rfl rfl rfl) ?_
  refine sgo ?_
  refine T_cond rfl ?_ ?_ <;> intro h52
  · skip
    simp at h52; omega
  refine kgs ?_
  refine tx ?_
  refine sr 2 ?_
  refine sg rfl (y_move rfl rfl) ?_
  refine sg rfl (y_move rfl rfl) ?_
  refine sg rfl (y_bin rfl rfl rfl (fun _ => b_gtr)) ?_
  refine s1 (y_and rfl rfl rfl) ?_
  refine sgo ?_
  refine T_cond rfl ?_ ?_ <;> intro h62
  · skip
    simp at h62
  refine kgx ?_
  refine sr 1 ?_
  refine s1 (y_as (v' := .int .i64 ((valB 10 s : Nat) : Int)) (by exact rfl) (y_conv64 rfl rfl Tryz.underlying145 Tryz.underlying2 (fun _ => by omega))) ?_
  refine sr 1 ?_
  refine sgs ?_
  refine tx ?_
  refine sr 1 ?_
  refine sgo ?_
  refine T_cond rfl ?_ ?_ <;> intro h69
  · skip
    cases h69
  refine kgx ?_
  refine sr 3 ?_
  refine sgo ?_
  refine tr2 hRb fun w hM => ?_
  exact ⟨rfl, hM.below⟩
theorem ParseInt10_any (s : List UInt8) (h0 : s ≠ []) (hl : s.length ≤ 12) (hd : ∀ c ∈ s, digOk 10 c = true) (w : World) :
    Calls Tryz.prog 276 #[str s, .int .i64 10, .int .i64 64] w fun e w' => e = .returned (.tuple #[.int .i64 ((valB 10 s : Nat) : Int), .nilIface]) ∧ Below w.heap.size w w' := by
  refine enter_args (args := [str s, .int .i64 10, .int .i64 64]) (F := _) Tryz.func276 rfl Tryz.ntmps276 rfl rfl ?_
  intro Rb hRb hRn
  refine tx ?_
  refine sr 2 ?_
  refine sgx ?_
  refine sr 3 ?_
  refine s1 (y_call rfl rfl rfl cf293 (fun _ w _ => iParseInt10_any s h0 hl hd w)) ?_
  refine sr 5 ?_
  refine sgs ?_
  refine tx ?_
  refine sr 1 ?_
  refine s1 (y_bin rfl rfl rfl (fun _ => b_neqII Tryz.underlying75)) ?_
  refine sgo ?_
  refine T_cond rfl ?_ ?_ <;> intro h17
  · skip
    cases h17
  refine kgx ?_
  refine sr 3 ?_
  refine sgo ?_
  refine tr2 hRb fun w hM => ?_
  exact ⟨rfl, hM.below⟩
theorem number10_any (s : List UInt8) (k : Nat) (hk : k ≤ 12) (hs : s.length ≤ 1000000) (w : World) :
    Calls Tryz.prog 232 #[str s, .int .i64 10, .int .i64 (k : Int)] w fun e w' => e = .returned (.tuple #[.int .i64 (((numB 10 k s).getD 0 : Nat) : Int), .bool (numB 10 k s).isSome]) ∧ Below w.heap.size w w' := by
  have hal : (s.all fun c => digB.contains c) = s.all (digOk 10) := by
    congr 1; funext c; exact dig10 c
  refine enter_args (args := [str s, .int .i64 10, .int .i64 (k : Int)]) (F := _) Tryz.func232 rfl Tryz.ntmps232 rfl rfl ?_
  intro Rb hRb hRn
  refine tx ?_
  refine sr 2 ?_
  refine sgs ?_
  refine tx ?_
  refine sr 1 ?_
  refine s1 (y_bin rfl rfl rfl (fun _ => b_eqls)) ?_
  refine sr 1 ?_
  refine sg rfl (y_move rfl rfl) ?_
  refine sg rfl (y_len_str rfl rfl Tryz.underlying9) ?_
  refine sg rfl (y_move rfl rfl) ?_
  refine sg rfl (y_bin rfl rfl rfl (fun _ => b_gtr)) ?_
  refine s1 (y_or rfl rfl rfl) ?_
  refine sr 1 ?_
  refine sg rfl (y_move rfl rfl) ?_
  refine sg rfl (y_len_str rfl rfl Tryz.underlying9) ?_
  refine sg rfl (y_bin rfl rfl rfl (fun _ => b_gtr)) ?_
  refine sg rfl (y_move rfl rfl) ?_
  refine sg rfl (y_move rfl rfl) ?_
  refine sg rfl (y_index_str (j := 0) rfl rfl rfl Tryz.underlying9 (fun hg => by simp at hg; omega)) ?_
  refine sg rfl (y_bin rfl rfl rfl (fun _ => b_eql)) ?_
  refine sg rfl (y_and rfl rfl rfl) ?_
  refine s1 (y_as (v' := .bool (num1 k s)) (by exact rfl) (y_or rfl rfl rfl)) ?_
  refine sgo ?_
  refine T_cond rfl ?_ ?_ <;> intro h27
  · skip
    have hn := num1_t (b := 10) h27
    refine tx ?_
    refine sr 2 ?_
    refine sgo ?_
    refine tr2 hRb fun w hM => ?_
    exact ⟨by rw [hn]; rfl, hM.below⟩
  have hn := num1_f (b := 10) h27
  have hlk := num1_len h27
  refine kgs ?_
  refine tx ?_
  refine sr 2 ?_
  refine s1 (y_as (v' := str digB) (by exact rfl) (y_strTo rfl rfl rfl Tryz.underlying9 (fun _ => by decide))) ?_
  refine s1 (y_call rfl rfl rfl cf60 (fun _ w _ => TrimDig_any s (by omega) w)) ?_
  refine s1 (y_bin rfl rfl rfl (fun _ => b_neqs)) ?_
  refine sgo ?_
  refine T_cond rfl ?_ ?_ <;> intro h32
  · skip
    have hn2 : numB 10 k s = none := by
      have h3 : decide (Lib.trimS s digB = []) = false := by simpa using h32
      rw [all_trimN, hal] at h3
      rw [numB, hn, h3]; rfl
    refine tx ?_
    refine sr 2 ?_
    refine sgo ?_
    refine tr2 hRb fun w hM => ?_
    exact ⟨by rw [hn2]; rfl, hM.below⟩
  have hn2 : numH 10 k s = true := by
    have h3 : decide (Lib.trimS s digB = []) = true := by simpa using h32
    rw [all_trimN, hal] at h3
    rw [hn, h3]
  have hp := num_parts hn2
  refine kgx ?_
  refine sr 2 ?_
  refine s1 (y_call rfl rfl rfl cf276 (fun _ w _ => ParseInt10_any s hp.1 (by omega) hp.2.2 w)) ?_
  refine sr 5 ?_
  refine sgs ?_
  refine T_draws (by kernel_rfl) (by kernel_rfl) ?_
  refine d1 (y_move rfl rfl) ?_
  refine d1 (y_move rfl rfl) ?_
  refine d1 (y_bin rfl rfl rfl (fun _ => b_eqlII Tryz.underlying75)) ?_
  refine d1 (y_assign rfl rfl) ?_
  refine d1 (y_assign rfl rfl) ?_
  refine dgo ?_
  refine tr2 hRb fun w hM => ?_
  exact ⟨by rw [numB, if_pos hn2]; rfl, hM.below⟩
theorem iParseInt16_any (s : List UInt8) (h0 : s ≠ []) (hl : s.length ≤ 12) (hd : ∀ c ∈ s, digOk 16 c = true) (w : World) :
    Calls Tryz.prog 293 #[str s, .int .i64 16, .int .i64 64] w fun e w' => e = .returned (.tuple #[.int .i64 ((valB 16 s : Nat) : Int), .nilIface]) ∧ Below w.heap.size w w' := by
  have hb : 16 = 10 ∨ 16 = 16 := by decide
  have hlt : 0 < s.length := List.length_pos_iff.2 h0
  have hd0 := hd _ (getN_mem hlt)
  have hge : 48 ≤ (s.getD 0 0).toNat := by
    simp only [digOk, Bool.or_eq_true, Bool.and_eq_true, decide_eq_true_eq] at hd0
    omega
  have hv := valB_small hb hd (i := s.length) hl
  rw [List.take_length] at hv
  refine enter_args (args := [str s, .int .i64 16, .int .i64 64]) (F := _) Tryz.func293 rfl Tryz.ntmps293 rfl rfl ?_
  intro Rb hRb hRn
  refine tx ?_
  refine sr 2 ?_
  refine sgs ?_
  refine tx ?_
  refine sr 1 ?_
  refine s1 (y_bin rfl rfl rfl (fun _ => b_eqls)) ?_
  refine sgo ?_
  refine T_cond rfl ?_ ?_ <;> intro h13
  · skip
    simp at h13; exact absurd h13 h0
  refine kgx ?_
  refine sr 1 ?_
  refine sgs ?_
  refine tx ?_
  refine sr 1 ?_
  refine s1 (y_index_str (j := 0) rfl rfl rfl Tryz.underlying9 (fun _ => hlt)) ?_
  refine sgo ?_
  refine T_block ?_
  refine tx ?_
  refine sr 2 ?_
  refine sgo ?_
  refine T_cond rfl ?_ ?_ <;> intro h17
  · skip
    simp only [decide_eq_true_eq] at h17; omega
  refine tx ?_
  refine sr 2 ?_
  refine sgo ?_
  refine T_cond rfl ?_ ?_ <;> intro h21
  · skip
    simp only [decide_eq_true_eq] at h21; omega
  refine kgx ?_
  refine sr 1 ?_
  refine sgx ?_
  refine sr 3 ?_
  refine s1 (y_call rfl rfl rfl cf313 (fun _ w _ => ParseUint16_any s h0 hl hd w)) ?_
  refine sr 5 ?_
  refine sgs ?_
  refine tx ?_
  refine sr 1 ?_
  refine s1 (y_bin rfl rfl rfl (fun _ => b_neqII Tryz.underlying75)) ?_
  refine sr 1 ?_
  refine sg rfl (y_move rfl rfl) ?_
  refine sg rfl (y_makeIfaceN rfl rfl Tryz.underlying315) ?_
  refine sg rfl (y_never (.bool true) (by simp)) ?_
  refine s1 (y_and rfl rfl rfl) ?_
  refine sgo ?_
  refine T_cond rfl ?_ ?_ <;> intro h38
  · skip
    simp at h38
  refine kgs ?_
  refine tx ?_
  refine sr 2 ?_
  refine sgo ?_
  refine T_cond rfl ?_ ?_ <;> intro h41
  · skip
    simp at h41
  refine kgx ?_
  refine sr 1 ?_
  refine s1 (y_bin rfl rfl rfl (fun hg => b_sub (by omega))) ?_
  refine s1 (y_conv rfl rfl Tryz.underlying3 Tryz.underlying214) ?_
  refine s1 (y_as (v' := .int .u64 9223372036854775808) (by exact rfl) (y_bin rfl rfl rfl (fun _ => b_shlU (p := 63) (by decide) (by decide)))) ?_
  refine sr 1 ?_
  refine sgs ?_
  refine tx ?_
  refine sr 3 ?_
  refine sg rfl (y_move rfl rfl) ?_
  refine sg rfl (y_move rfl rfl) ?_
  refine sg rfl (y_bin rfl rfl rfl (fun _ => b_geq)) ?_
  refine s1 (y_and rfl rfl rfl) ?_
  refine sgo ?_
  refine T_cond rfl ?_ ?_ <;> intro h52
  · skip
    simp at h52; omega
  refine kgs ?_
  refine tx ?_
  refine sr 2 ?_
  refine sg rfl (y_move rfl rfl) ?_
  refine sg rfl (y_move rfl rfl) ?_
  refine sg rfl (y_bin rfl rfl rfl (fun _ => b_gtr)) ?_
  refine s1 (y_and rfl rfl rfl) ?_
  refine sgo ?_
  refine T_cond rfl ?_ ?_ <;> intro h62
  · skip
    simp at h62
  refine kgx ?_
  refine sr 1 ?_
  refine s1 (y_as (v' := .int .i64 ((valB 16 s : Nat) : Int)) (by exact rfl) (y_conv64 rfl rfl Tryz.underlying145 Tryz.underlying2 (fun _ => by omega))) ?_
  refine sr 1 ?_
  refine sgs ?_
  refine tx ?_
  refine sr 1 ?_
  refine sgo ?_
  refine T_cond rfl ?_ ?_ <;> intro h69
  · skip
    cases h69
  refine kgx ?_
  refine sr 3 ?_
  refine sgo ?_
  refine tr2 hRb fun w hM => ?_
  exact ⟨rfl, hM.below⟩
theorem ParseInt16_any (s : List UInt8) (h0 : s ≠ []) (hl : s.length ≤ 12) (hd : ∀ c ∈ s, digOk 16 c = true) (w : World) :
    Calls Tryz.prog 276 #[str s, .int .i64 16, .int .i64 64] w fun e w' => e = .returned (.tuple #[.int .i64 ((valB 16 s : Nat) : Int), .nilIface]) ∧ Below w.heap.size w w' := by
  refine enter_args (args := [str s, .int .i64 16, .int .i64 64]) (F := _) Tryz.func276 rfl Tryz.ntmps276 rfl rfl ?_
  intro Rb hRb hRn
  refine tx ?_
  refine sr 2 ?_
  refine sgx ?_
  refine sr 3 ?_
  refine s1 (y_call rfl rfl rfl cf293 (fun _ w _ => iParseInt16_any s h0 hl hd w)) ?_
  refine sr 5 ?_
  refine sgs ?_
  refine tx ?_
  refine sr 1 ?_
  refine s1 (y_bin rfl rfl rfl (fun _ => b_neqII Tryz.underlying75)) ?_
  refine sgo ?_
  refine T_cond rfl ?_ ?_ <;> intro h17
  · skip
    cases h17
  refine kgx ?_
  refine sr 3 ?_
  refine sgo ?_
  refine tr2 hRb fun w hM => ?_
  exact ⟨rfl, hM.below⟩
theorem number16_any (s : List UInt8) (k : Nat) (hk : k ≤ 12) (hs : s.length ≤ 1000000) (w : World) :
    Calls Tryz.prog 232 #[str s, .int .i64 16, .int .i64 (k : Int)] w fun e w' => e = .returned (.tuple #[.int .i64 (((numB 16 k s).getD 0 : Nat) : Int), .bool (numB 16 k s).isSome]) ∧ Below w.heap.size w w' := by
  have hal : (s.all fun c => hexs.contains c) = s.all (digOk 16) := by
    congr 1; funext c; exact dig16 c
  refine enter_args (args := [str s, .int .i64 16, .int .i64 (k : Int)]) (F := _) Tryz.func232 rfl Tryz.ntmps232 rfl rfl ?_
  intro Rb hRb hRn
  refine tx ?_
  refine sr 2 ?_
  refine sgs ?_
  refine tx ?_
  refine sr 1 ?_
  refine s1 (y_bin rfl rfl rfl (fun _ => b_eqls)) ?_
  refine sr 1 ?_
  refine sg rfl (y_move rfl rfl) ?_
  refine sg rfl (y_len_str rfl rfl Tryz.underlying9) ?_
  refine sg rfl (y_move rfl rfl) ?_
  refine sg rfl (y_bin rfl rfl rfl (fun _ => b_gtr)) ?_
  refine s1 (y_or rfl rfl rfl) ?_
  refine sr 1 ?_
  refine sg rfl (y_move rfl rfl) ?_
  refine sg rfl (y_len_str rfl rfl Tryz.underlying9) ?_
  refine sg rfl (y_bin rfl rfl rfl (fun _ => b_gtr)) ?_
  refine sg rfl (y_move rfl rfl) ?_
  refine sg rfl (y_move rfl rfl) ?_
  refine sg rfl (y_index_str (j := 0) rfl rfl rfl Tryz.underlying9 (fun hg => by simp at hg; omega)) ?_
  refine sg rfl (y_bin rfl rfl rfl (fun _ => b_eql)) ?_
  refine sg rfl (y_and rfl rfl rfl) ?_
  refine s1 (y_as (v' := .bool (num1 k s)) (by exact rfl) (y_or rfl rfl rfl)) ?_
  refine sgo ?_
  refine T_cond rfl ?_ ?_ <;> intro h27
  · skip
    have hn := num1_t (b := 16) h27
    refine tx ?_
    refine sr 2 ?_
    refine sgo ?_
    refine tr2 hRb fun w hM => ?_
    exact ⟨by rw [hn]; rfl, hM.below⟩
  have hn := num1_f (b := 16) h27
  have hlk := num1_len h27
  refine kgs ?_
  refine tx ?_
  refine sr 2 ?_
  refine s1 (y_as (v' := str hexs) (by exact rfl) (y_strTo rfl rfl rfl Tryz.underlying9 (fun _ => by decide))) ?_
  refine s1 (y_call rfl rfl rfl cf60 (fun _ w _ => TrimHex_any s (by omega) w)) ?_
  refine s1 (y_bin rfl rfl rfl (fun _ => b_neqs)) ?_
  refine sgo ?_
  refine T_cond rfl ?_ ?_ <;> intro h32
  · skip
    have hn2 : numB 16 k s = none := by
      have h3 : decide (Lib.trimS s hexs = []) = false := by simpa using h32
      rw [all_trimN, hal] at h3
      rw [numB, hn, h3]; rfl
    refine tx ?_
    refine sr 2 ?_
    refine sgo ?_
    refine tr2 hRb fun w hM => ?_
    exact ⟨by rw [hn2]; rfl, hM.below⟩
  have hn2 : numH 16 k s = true := by
    have h3 : decide (Lib.trimS s hexs = []) = true := by simpa using h32
    rw [all_trimN, hal] at h3
    rw [hn, h3]
  have hp := num_parts hn2
  refine kgx ?_
  refine sr 2 ?_
  refine s1 (y_call rfl rfl rfl cf276 (fun _ w _ => ParseInt16_any s hp.1 (by omega) hp.2.2 w)) ?_
  refine sr 5 ?_
  refine sgs ?_
  refine T_draws (by kernel_rfl) (by kernel_rfl) ?_
  refine d1 (y_move rfl rfl) ?_
  refine d1 (y_move rfl rfl) ?_
  refine d1 (y_bin rfl rfl rfl (fun _ => b_eqlII Tryz.underlying75)) ?_
  refine d1 (y_assign rfl rfl) ?_
  refine d1 (y_assign rfl rfl) ?_
  refine dgo ?_
  refine tr2 hRb fun w hM => ?_
  exact ⟨by rw [numB, if_pos hn2]; rfl, hM.below⟩
end Go.Proofs.YtgbldojgbpgjbaaGreatDoor
end
section
namespace Go.Proofs.YtgbldojgbpgjbaaGreatDoor
set_option linter.unusedSimpArgs false
set_option linter.unusedVariables false
set_option maxRecDepth 20000
open Go.RowKit Go.Eng
theorem y_pickF {P : Program} {w0 : World} {F : FL} {L : HL} {o : Oper} {c x y : Operand} {v : Value} (ho : o.op = .pick c x y) (hc : F.ev c = some (true, .bool false)) (hy : F.ev y = some (true, v)) : Y P w0 F L true o v :=
  Y_of fun n a hF hg w _ => by
    have hc' : a.eval c = .bool false := by have := hF.eval hc; simpa using this
    have hy' : a.eval y = v := by have := hF.eval hy; simpa using this
    simp only [execOp, ho, hc']
    simp [asBool, hy', Result.andThen]
theorem CutPrefix_any (s p : List UInt8) (w : World) : Calls Tryz.prog 198 #[str s, str p] w fun e w' => e = .returned (.tuple #[str (Lib.trimPrefix s p), .bool (Lib.hasPrefix s p)]) ∧ Below w.heap.size w w' :=
  (Tryz.strings_CutPrefix ⟨s.toArray⟩ ⟨p.toArray⟩ w).mono fun e w' h => ⟨h.1, h.2 ▸ Below.refl _ _⟩
theorem CutSuffix_any (s p : List UInt8) (hs : s.length ≤ 4611686018427387904) (w : World) : Calls Tryz.prog 202 #[str s, str p] w fun e w' => e = .returned (.tuple #[str (Lib.trimSuffix s p), .bool (Lib.hasSuffix s p)]) ∧ Below w.heap.size w w' :=
  (Tryz.strings_CutSuffix ⟨s.toArray⟩ ⟨p.toArray⟩ w (by show s.toArray.size ≤ _; simp; omega)).mono fun e w' h => ⟨h.1, h.2 ▸ Below.refl _ _⟩
abbrev ptrH (b : Nat) : Value := .pointer (some ⟨b, 0, none⟩)
abbrev frH (b : Nat) (x : Frm) : It := .blk b (IsBox [str x.m, str x.f, str x.fi, .int .i64 x.ln, .int .i64 x.ad, .bool x.own] 45)
theorem cut_le (c : UInt8) (s : List UInt8) : (cutC c s).1.length ≤ s.length ∧ (cutC c s).2.1.length ≤ s.length := by
  unfold cutC
  split
  · exact ⟨Nat.le_refl _, Nat.zero_le _⟩
  · exact ⟨by rw [List.length_take]; omega, by rw [List.length_drop]; omega⟩
theorem callM_le (s : List UInt8) : (callM s).1.length ≤ s.length ∧ (callM s).2.length ≤ s.length := by
  have := cut_le 33 s
  unfold callM
  split
  · exact this
  · exact ⟨Nat.zero_le _, Nat.le_refl _⟩
theorem readCall_any {w0 : World} {K : HL} (hK : FromK K) (b : Nat) (x : Frm) (s : List UInt8) (hs : s.length ≤ 1000000) (w : World) (hM0 : Mem w0 ([(901, frH b x)] ++ K) w) :
    Calls Tryz.prog 236 #[str s, ptrH b] w fun e w' => ∃ z : Unit, e = .returned (.bool (callOk s)) ∧ True ∧ Mem w0 ([(901, frH b ⟨(callM s).1, (callM s).2, x.fi, x.ln, x.ad, x.own⟩)] ++ K) w' := by
  have hl := callM_le s
  refine enterM_args (args := [str s, ptrH b]) (F := _) hM0 Tryz.func236 rfl Tryz.ntmps236 rfl rfl ?_
  intro Rb hRb hRn
  refine tx ?_
  refine sr 1 ?_
  refine sgx ?_
  refine sr 1 ?_
  refine s1 (y_call rfl rfl rfl cf79 (fun _ w _ => Cut1_any s 33 w (by omega))) ?_
  refine sr 7 ?_
  refine sgs ?_
  refine tx ?_
  refine sr 2 ?_
  refine sgo ?_
  refine T_mid (kf := [(5, 6), (16, 16)]) (kl := [(5, 6), (16, 16)]) (fun u : Unit => [(5, true, str (callM s).1), (6, true, str (callM s).2)]) (fun u : Unit => []) (by repeat (first | exact kf_nil | (apply kf_in; focus rfl) | (apply kf_out; focus rfl))) (by repeat (first | exact kl_nil | exact kl_rest (by assumption) rfl | (apply kl_in; focus rfl) | (apply kl_out; focus rfl))) ?_ ?_
  · skip
    refine T_cond rfl ?_ ?_ <;> intro h15
    · skip
      have hc : (cutC 33 s).2.2 = false := by simpa using h15
      refine T_region ?_
      refine sr 3 ?_
      refine S_nil (mid_end (kf := [(5, 6), (16, 16)]) (kl := [(5, 6), (16, 16)]) (()) (by repeat (first | exact kf_nil | (apply kf_in; focus rfl) | (apply kf_out; focus rfl))) (by repeat (first | exact kl_nil | exact kl_rest (by assumption) rfl | (apply kl_in; focus rfl) | (apply kl_out; focus rfl))) ?_ ?_)
      · exact ⟨by rw [callM, if_neg (by rw [hc]; decide)]; rfl, by rw [callM, if_neg (by rw [hc]; decide)]; rfl, trivial⟩
      · exact trivial
    have hc : (cutC 33 s).2.2 = true := by simpa using h15
    refine T_skip (mid_end (kf := [(5, 6), (16, 16)]) (kl := [(5, 6), (16, 16)]) (()) (by repeat (first | exact kf_nil | (apply kf_in; focus rfl) | (apply kf_out; focus rfl))) (by repeat (first | exact kl_nil | exact kl_rest (by assumption) rfl | (apply kl_in; focus rfl) | (apply kl_out; focus rfl))) ?_ ?_)
    · exact ⟨by rw [callM, if_pos hc]; rfl, by rw [callM, if_pos hc]; rfl, trivial⟩
    · exact trivial
  intro u
  refine sgx ?_
  refine sr 4 ?_
  refine s1 (y_nilCheck rfl rfl) ?_
  refine s1 (yF fa45_0) ?_
  refine S_store 901 rfl rfl rfl rfl rfl rfl sz9 rfl rfl ?_
  refine s1 (y_nilCheck rfl rfl) ?_
  refine s1 (yF fa45_1) ?_
  refine S_store 901 rfl rfl rfl rfl rfl rfl sz9 rfl rfl ?_
  refine sgx ?_
  refine sr 1 ?_
  refine s1 (y_bin rfl rfl rfl (fun _ => b_neqs)) ?_
  refine sr 1 ?_
  refine sg rfl (y_move rfl rfl) ?_
  refine sg rfl (y_call rfl rfl rfl cf148 (fun _ w _ => isWord_any _ _ (by omega) w)) ?_
  refine s1 (y_and rfl rfl rfl) ?_
  refine sr 1 ?_
  refine sg rfl (y_move rfl rfl) ?_
  refine sg rfl (y_call rfl rfl rfl cf148 (fun _ w _ => isWord_any _ _ (by omega) w)) ?_
  refine s1 (y_and rfl rfl rfl) ?_
  refine sr 1 ?_
  refine sg rfl (y_move rfl rfl) ?_
  refine sg rfl (y_bin rfl rfl rfl (fun _ => b_neqs)) ?_
  refine sg rfl (y_move rfl rfl) ?_
  refine sg rfl (y_move rfl rfl) ?_
  refine sg rfl (y_not rfl rfl) ?_
  refine sg rfl (y_or rfl rfl rfl) ?_
  refine s1 (y_as (v' := .bool (callOk s)) (by exact rfl) (y_and rfl rfl rfl)) ?_
  refine sr 1 ?_
  refine sgo ?_
  refine tr1 hRb fun w hM => ?_
  exact ⟨(), rfl, trivial, hM.keep (ks := [(0, 999)]) (by repeat (first | exact kl_rest (by assumption) rfl | (apply kl_in; focus rfl))) _ ⟨rfl, trivial⟩⟩
/-- what is left of the words: their place in memory, and what was read before them -/
structure WdR where
  A : Option Addr
  q : Nat
  c : Nat
  ws : List (List UInt8)
  fi : List UInt8
  ln : Nat
  ad : Int
structure WdOk (w0 : World) (rs : List Row) (z : WdR) : Prop where
  sees : Sees w0 rs fun w => SlT strE 1 w z.A z.q z.ws
  cap : z.q ≤ z.c
  short : ∀ x ∈ z.ws, x.length ≤ 1000000
  len : z.ws.length = z.q
structure WdS (w0 : World) (rs : List Row) (R : WdR → Prop) where
  z : WdR
  ok : WdOk w0 rs z
  says : R z
def WdR.tl (z : WdR) (fi : List UInt8) (ln : Nat) (ad : Int) : WdR := ⟨if z.c = 1 then z.A else z.A.map (·.add 1), z.q - 1, z.c - 1, z.ws.drop 1, fi, ln, ad⟩
theorem WdOk.tl {w0 : World} {rs : List Row} {z : WdR} (h : WdOk w0 rs z) (h0 : 0 < z.q) {fi : List UInt8} {ln : Nat} {ad : Int} : WdOk w0 rs (z.tl fi ln ad) :=
  ⟨h.sees.map fun w hs => by
    have hl := hs.len
    have := hs.cut (lo := 1) (hi := z.q) (c := z.c) (fun _ => rfl) (by omega) (Nat.le_refl _) h.cap
    rw [List.take_of_length_le (by rw [List.length_drop]; omega)] at this
    exact this, by have := h.cap; show z.q - 1 ≤ z.c - 1; omega, fun x hx => h.short x (List.mem_of_mem_drop hx), by show (z.ws.drop 1).length = z.q - 1; rw [List.length_drop, h.len]⟩
theorem hd_get {α : Type} {l : List α} (d : α) (h : 0 < l.length) : l[0]? = some (l.headD d) := by
  cases l with
  | nil => cases h
  | cons a r => rfl
theorem hd_short {l : List (List UInt8)} {n : Nat} (h : ∀ x ∈ l, x.length ≤ n) : (l.headD []).length ≤ n := by
  cases l with
  | nil => exact Nat.zero_le _
  | cons a r => exact h a (List.mem_cons_self ..)
theorem pre_len {s : List UInt8} {c : UInt8} (h : Lib.hasPrefix s [c] = true) : 1 ≤ s.length := by
  cases s with
  | nil => simp [Lib.hasPrefix] at h
  | cons a r => exact Nat.succ_pos _
theorem trimS_le (s p : List UInt8) : (Lib.trimSuffix s p).length ≤ s.length := by
  unfold Lib.trimSuffix
  split
  · rw [List.length_take]; omega
  · exact Nat.le_refl _
abbrev prL (s : List UInt8) : List UInt8 × List UInt8 × Bool := cutC 58 (Lib.trimSuffix (s.drop 1) [41])
/-- the word in brackets as the code reads it -/
theorem trimS_of {s p : List UInt8} (h : Lib.hasSuffix s p = true) : Lib.trimSuffix s p = s.take (s.length - p.length) := by rw [Lib.trimSuffix, if_pos h]
theorem fileQ_no {w : List UInt8} (h : (Lib.hasSuffix (w.drop 1) [41] = false ∨ (prL w).1 = []) ∨ wordOk marks (prL w).1 = false) : fileQ w = none := by
  by_cases h1 : Lib.hasSuffix (w.drop 1) [41] = false
  · rw [fileQ, if_pos h1]
  · have h2 : (prL w).1 = [] ∨ wordOk marks (prL w).1 = false := by
      rcases h with (h | h) | h
      · exact absurd h h1
      · exact .inl h
      · exact .inr h
    rw [prL, trimS_of (by simpa using h1)] at h2
    rw [fileQ, if_neg h1]
    exact if_pos h2
theorem fileQ_yes {w : List UInt8} (h1 : Lib.hasSuffix (w.drop 1) [41] = true) (h2 : (prL w).1 ≠ []) (h3 : wordOk marks (prL w).1 = true) :
    fileQ w = if (prL w).2.2 = true then (match numB 10 7 (prL w).2.1 with | some (n + 1) => some ((prL w).1, n + 1) | _ => none) else some ((prL w).1, 0) := by
  rw [prL, trimS_of h1] at *
  rw [fileQ, if_neg (by rw [h1]; decide)]
  exact if_neg (by rw [not_or]; exact ⟨h2, fun h => absurd (h3.symm.trans h) (by decide)⟩)
theorem placeQ_par {ws : List (List UInt8)} (h0 : 0 < ws.length) (hp : Lib.hasPrefix (ws.headD []) [40] = true) : placeQ ws = match fileQ (ws.headD []) with | some (fi, ln) => plB fi ln (ws.drop 1) | none => none := by
  cases ws with
  | nil => cases h0
  | cons w r => exact if_pos hp
theorem placeQ_no {ws : List (List UInt8)} (h : 0 < ws.length → Lib.hasPrefix (ws.headD []) [40] = false) : placeQ ws = plB [] 0 ws := by
  cases ws with
  | nil => rfl
  | cons w r => exact if_neg (by have : Lib.hasPrefix w [40] = false := h (Nat.succ_pos _); rw [this]; decide)
theorem opt_none {o : Option Nat} (h : o.isSome = false) : o = none := by cases o with | none => rfl | some _ => cases h
theorem opt_some {o : Option Nat} (h : o.isSome = true) : o = some (o.getD 0) := by cases o with | none => cases h | some _ => rfl
theorem num_no {α : Type} {o : Option Nat} {x : α} : (o.isSome = false ∨ ((o.getD 0 : Nat) : Int) = 0) → (match o with | some (n + 1) => some (x, n + 1) | _ => none) = none := by
  intro h
  match o, h with
  | none, _ => rfl
  | some 0, _ => rfl
  | some (n + 1), h => rcases h with h | h; cases h; simp at h; omega
theorem num_yes {o : Option Nat} (h : o.isSome = true ∧ ¬ ((o.getD 0 : Nat) : Int) = 0) : ∃ n, o = some (n + 1) := by
  match o, h with
  | none, h => cases h.1
  | some 0, h => exact absurd rfl h.2
  | some (n + 1), _ => exact ⟨n, rfl⟩
theorem num_got {α : Type} {o : Option Nat} {x : α} : (o.isSome = true ∧ ¬ ((o.getD 0 : Nat) : Int) = 0) → (match o with | some (n + 1) => some (x, n + 1) | _ => none) = some (x, o.getD 0) := by
  intro h
  obtain ⟨n, rfl⟩ := num_yes h
  rfl
theorem plB_at {ws : List (List UInt8)} {fi : List UInt8} {ln : Nat} (h0 : 0 < ws.length) (hp : Lib.hasPrefix (ws.headD []) [64] = true) : plB fi ln ws = match numB 16 12 ((ws.headD []).drop 1) with | some n => plC fi ln (n : Int) (ws.drop 1) | none => none := by
  cases ws with
  | nil => cases h0
  | cons w r => exact if_pos hp
theorem plB_got {ws : List (List UInt8)} {fi : List UInt8} {ln : Nat} (h0 : 0 < ws.length) (hp : Lib.hasPrefix (ws.headD []) [64] = true) (h : (numB 16 12 ((ws.headD []).drop 1)).isSome = true) :
    plB fi ln ws = plC fi ln (((numB 16 12 ((ws.headD []).drop 1)).getD 0 : Nat) : Int) (ws.drop 1) := by
  rw [plB_at h0 hp]
  generalize numB 16 12 ((ws.headD []).drop 1) = o at *
  cases o with
  | none => cases h
  | some n => rfl
theorem plB_none {ws : List (List UInt8)} {fi : List UInt8} {ln : Nat} (h0 : 0 < ws.length) (hp : Lib.hasPrefix (ws.headD []) [64] = true) (h : (numB 16 12 ((ws.headD []).drop 1)).isSome = false) : plB fi ln ws = none := by
  rw [plB_at h0 hp, opt_none h]
theorem plB_no {ws : List (List UInt8)} {fi : List UInt8} {ln : Nat} (h : 0 < ws.length → Lib.hasPrefix (ws.headD []) [64] = false) : plB fi ln ws = plC fi ln (-1) ws := by
  cases ws with
  | nil => rfl
  | cons w r => exact if_neg (by have : Lib.hasPrefix w [64] = false := h (Nat.succ_pos _); rw [this]; decide)
theorem plC_star {ws : List (List UInt8)} {fi : List UInt8} {ln : Nat} {ad : Int} (h0 : 0 < ws.length) (hp : ws.headD [] = [42]) : plC fi ln ad ws = if ws.length - 1 = 0 then some ⟨fi, ln, ad, true⟩ else none := by
  match ws, h0, hp with
  | [w], _, hp => exact if_pos hp
  | _ :: _ :: _, _, _ => rfl
theorem plC_no {ws : List (List UInt8)} {fi : List UInt8} {ln : Nat} {ad : Int} (h : 0 < ws.length → ws.headD [] ≠ [42]) : plC fi ln ad ws = if ws.length = 0 then some ⟨fi, ln, ad, false⟩ else none := by
  match ws, h with
  | [], _ => rfl
  | [w], h => exact if_neg (h (Nat.succ_pos _))
  | _ :: _ :: _, _ => rfl
theorem plC_end {n q : Nat} {y : Frm} {o : Option PPl} {v : PPl} {m f : List UInt8} (hn : n = q) (ho : o = if n = 0 then some v else none) (hy : y = ⟨m, f, v.fi, (v.ln : Int), v.ad, v.own⟩) : Ending.returned (Value.bool (decide ((q : Int) = 0))) = .returned (.bool o.isSome) ∧ ∀ p, o = some p → y = ⟨m, f, p.fi, (p.ln : Int), p.ad, p.own⟩ := by
  subst hn ho
  by_cases h : n = 0
  · rw [if_pos h]; exact ⟨by simp [h], fun p hp => by cases hp; exact hy⟩
  · rw [if_neg h]; exact ⟨by simp [h], fun p hp => by cases hp⟩
set_option maxHeartbeats 1600000 in
theorem readPlace_any {w0 : World} {K : HL} (hK : FromK K) (b : Nat) (m f : List UInt8) (rs : List Row) (z : WdR) (hz : WdOk w0 rs z) (w : World) (hM0 : Mem w0 ([(900, .many rs), (901, frH b ⟨m, f, [], 0, 0, false⟩)] ++ K) w) :
    Calls Tryz.prog 237 #[.slice z.A z.q z.c, ptrH b] w fun e w' => ∃ y : Frm, e = .returned (.bool (placeQ z.ws).isSome) ∧ (∀ p, placeQ z.ws = some p → y = ⟨m, f, p.fi, (p.ln : Int), p.ad, p.own⟩) ∧ Mem w0 ([(900, .many rs), (901, frH b y)] ++ K) w' := by
  have hl := hd_short hz.short
  have hl1 := trimS_le ((z.ws.headD []).drop 1) [41]
  have hl2 := cut_le 58 (Lib.trimSuffix ((z.ws.headD []).drop 1) [41])
  have hlen := hz.len
  have hcap := hz.cap
  rw [List.length_drop] at hl1
  refine enterM_args (args := [.slice z.A z.q z.c, ptrH b]) (F := _) hM0 Tryz.func237 rfl Tryz.ntmps237 rfl rfl ?_
  intro Rb hRb hRn
  refine tx ?_
  refine sr 1 ?_
  refine sgx ?_
  refine sr 1 ?_
  refine s1 (y_nilCheck rfl rfl) ?_
  refine s1 (yF fa45_4) ?_
  refine S_store 901 rfl rfl rfl rfl rfl rfl sz3 rfl rfl ?_
  refine sgs ?_
  refine tx ?_
  refine sr 1 ?_
  refine s1 (y_len_slice rfl rfl Tryz.underlying53) ?_
  refine sr 2 ?_
  refine sg rfl (y_move rfl rfl) ?_
  refine sg rfl (y_here rfl (fun w1 hM => y_indexAddr (j := 0) rfl rfl rfl Tryz.underlying53 sz9 (fun hg => (hz.sees.at hM 900 rfl).isSome (by first | omega | simpa using hg)) (fun hg => by first | omega | simpa using hg))) ?_
  refine sg rfl (y_here rfl (fun w1 hM => y_loadT1 (val := str) (xe := z.ws.headD []) rfl rfl (hz.sees.at hM 900 rfl) (fun hg => hd_get _ (by rw [hlen]; first | omega | simpa using hg)) Tryz.underlying9 rfl)) ?_
  refine sg rfl (y_call rfl rfl rfl cf183 (fun _ w _ => HasPrefix_any _ _ w)) ?_
  refine s1 (y_and rfl rfl rfl) ?_
  refine sgo ?_
  refine T_mid (kf := [(0, 0), (4, 11), (26, 72)]) (kl := [(0, 0), (4, 11), (26, 72), (901, 901)]) (fun y : WdS w0 rs fun y => placeQ z.ws = plB y.fi y.ln y.ws => [(0, true, .slice y.z.A y.z.q y.z.c)]) (fun y : WdS w0 rs fun y => placeQ z.ws = plB y.fi y.ln y.ws => [(901, frH b ⟨m, f, y.z.fi, (y.z.ln : Int), -1, false⟩)]) (by repeat (first | exact kf_nil | (apply kf_in; focus rfl) | (apply kf_out; focus rfl))) (by repeat (first | exact kl_nil | exact kl_rest (by assumption) rfl | (apply kl_in; focus rfl) | (apply kl_out; focus rfl))) ?_ ?_
  · skip
    refine T_cond rfl ?_ ?_ <;> intro h25
    · try simp only [nrm] at h25
      have hq1 : 0 < z.ws.length := by omega
      have hpl := placeQ_par hq1 h25.2
      have hw1 := pre_len h25.2
      refine tx ?_
      refine sr 1 ?_
      refine s1 (y_here rfl (fun w1 hM => y_indexAddr (j := 0) rfl rfl rfl Tryz.underlying53 sz9 (fun hg => (hz.sees.at hM 900 rfl).isSome (by first | omega | simpa using hg)) (fun hg => by first | omega | simpa using hg))) ?_
      refine s1 (y_here rfl (fun w1 hM => y_loadT1 (val := str) (xe := z.ws.headD []) rfl rfl (hz.sees.at hM 900 rfl) (fun hg => hd_get _ (by rw [hlen]; first | omega | simpa using hg)) Tryz.underlying9 rfl)) ?_
      refine s1 (y_as (v' := str ((z.ws.headD []).drop 1)) (by exact rfl) (y_strFrom rfl rfl rfl Tryz.underlying9 (fun _ => by omega))) ?_
      refine s1 (y_call rfl rfl rfl cf202 (fun _ w _ => CutSuffix_any _ _ (by rw [List.length_drop]; omega) w)) ?_
      refine sr 5 ?_
      refine sgx ?_
      refine sr 1 ?_
      refine s1 (y_call rfl rfl rfl cf79 (fun _ w _ => Cut1_any _ 58 w (by omega))) ?_
      refine sr 7 ?_
      refine sgs ?_
      refine tx ?_
      refine sr 3 ?_
      refine sg rfl (y_move rfl rfl) ?_
      refine sg rfl (y_bin rfl rfl rfl (fun _ => b_eqls)) ?_
      refine s1 (y_or rfl rfl rfl) ?_
      refine sr 1 ?_
      refine sg rfl (y_move rfl rfl) ?_
      refine sg rfl (y_call rfl rfl rfl cf148 (fun _ w _ => isWord_any _ _ (by omega) w)) ?_
      refine sg rfl (y_not rfl rfl) ?_
      refine s1 (y_or rfl rfl rfl) ?_
      refine sgo ?_
      refine T_cond rfl ?_ ?_ <;> intro h50
      · try simp only [nrm] at h50
        have hno := fileQ_no h50
        refine tx ?_
        refine sr 1 ?_
        refine sgo ?_
        refine tr1 hRb fun w hM => ?_
        exact ⟨⟨m, f, [], 0, -1, false⟩, by rw [hpl, hno]; rfl, fun p hp => (by rw [hpl, hno] at hp; cases hp), hM.keep (ks := [(0, 999)]) (by repeat (first | exact kl_rest (by assumption) rfl | (apply kl_in; focus rfl))) _ ⟨rfl, rfl, trivial⟩⟩
      try simp only [nrm] at h50
      have hfy := fileQ_yes h50.1.1 h50.1.2 h50.2
      refine kgx ?_
      refine sr 2 ?_
      refine s1 (y_nilCheck rfl rfl) ?_
      refine s1 (yF fa45_2) ?_
      refine S_store 901 rfl rfl rfl rfl rfl rfl sz9 rfl rfl ?_
      refine sgs ?_
      refine tx ?_
      refine sr 1 ?_
      refine sgo ?_
      refine T_cond rfl ?_ ?_ <;> intro h55
      · try simp only [nrm] at h55
        refine tx ?_
        refine sr 1 ?_
        refine s1 (y_call rfl rfl rfl cf232 (fun _ w _ => number10_any _ 7 (by omega) (by omega) w)) ?_
        refine sr 5 ?_
        refine sgs ?_
        refine tx ?_
        refine sr 3 ?_
        refine sg rfl (y_move rfl rfl) ?_
        refine sg rfl (y_bin rfl rfl rfl (fun _ => b_eql)) ?_
        refine s1 (y_or rfl rfl rfl) ?_
        refine sgo ?_
        refine T_cond rfl ?_ ?_ <;> intro h66
        · try simp only [nrm] at h66
          have hn7 : fileQ (z.ws.headD []) = none := by rw [hfy, if_pos h55]; exact num_no h66
          refine tx ?_
          refine sr 1 ?_
          refine sgo ?_
          refine tr1 hRb fun w hM => ?_
          exact ⟨⟨m, f, (prL (z.ws.headD [])).1, 0, -1, false⟩, by rw [hpl, hn7]; rfl, fun p hp => (by rw [hpl, hn7] at hp; cases hp), hM.keep (ks := [(0, 999)]) (by repeat (first | exact kl_rest (by assumption) rfl | (apply kl_in; focus rfl))) _ ⟨rfl, rfl, trivial⟩⟩
        try simp only [nrm] at h66
        have hn7 : fileQ (z.ws.headD []) = some ((prL (z.ws.headD [])).1, (numB 10 7 (prL (z.ws.headD [])).2.1).getD 0) := by rw [hfy, if_pos h55]; exact num_got h66
        refine kgr ?_
        refine sr 2 ?_
        refine s1 (y_nilCheck rfl rfl) ?_
        refine s1 (yF fa45_3) ?_
        refine S_store 901 rfl rfl rfl rfl rfl rfl sz3 rfl rfl ?_
        refine sgr ?_
        refine sr 1 ?_
        refine s1 (y_slice rfl rfl Tryz.underlying53 sz9 (.inr ⟨_, _, rfl, rfl⟩) (.inl ⟨rfl, rfl⟩) (by show 1 ≤ _; omega) (by omega) (by omega)) ?_
        refine sr 1 ?_
        refine S_nil (mid_end (kf := [(0, 0), (4, 11), (26, 72)]) (kl := [(0, 0), (4, 11), (26, 72), (901, 901)]) (⟨z.tl (prL (z.ws.headD [])).1 ((numB 10 7 (prL (z.ws.headD [])).2.1).getD 0) 0, hz.tl (by omega), by rw [hpl, hn7]; rfl⟩) (by repeat (first | exact kf_nil | (apply kf_in; focus rfl) | (apply kf_out; focus rfl))) (by repeat (first | exact kl_nil | exact kl_rest (by assumption) rfl | (apply kl_in; focus rfl) | (apply kl_out; focus rfl))) ?_ ?_)
        · exact ⟨rfl, trivial⟩
        · exact ⟨rfl, trivial⟩
      try simp only [nrm] at h55
      refine kgr ?_
      refine sr 1 ?_
      refine s1 (y_slice rfl rfl Tryz.underlying53 sz9 (.inr ⟨_, _, rfl, rfl⟩) (.inl ⟨rfl, rfl⟩) (by show 1 ≤ _; omega) (by omega) (by omega)) ?_
      refine sr 1 ?_
      refine S_nil (mid_end (kf := [(0, 0), (4, 11), (26, 72)]) (kl := [(0, 0), (4, 11), (26, 72), (901, 901)]) (⟨z.tl (prL (z.ws.headD [])).1 0 0, hz.tl (by omega), by rw [hpl, hfy, if_neg (by rw [h55]; decide)]; rfl⟩) (by repeat (first | exact kf_nil | (apply kf_in; focus rfl) | (apply kf_out; focus rfl))) (by repeat (first | exact kl_nil | exact kl_rest (by assumption) rfl | (apply kl_in; focus rfl) | (apply kl_out; focus rfl))) ?_ ?_)
      · exact ⟨rfl, trivial⟩
      · exact ⟨rfl, trivial⟩
    try simp only [nrm] at h25
    have hpl := placeQ_no (ws := z.ws) fun h => h25.resolve_left (by omega)
    refine T_skip (mid_end (kf := [(0, 0), (4, 11), (26, 72)]) (kl := [(0, 0), (4, 11), (26, 72), (901, 901)]) (⟨⟨z.A, z.q, z.c, z.ws, [], 0, 0⟩, ⟨hz.sees, hz.cap, hz.short, hz.len⟩, hpl⟩) (by repeat (first | exact kf_nil | (apply kf_in; focus rfl) | (apply kf_out; focus rfl))) (by repeat (first | exact kl_nil | exact kl_rest (by assumption) rfl | (apply kl_in; focus rfl) | (apply kl_out; focus rfl))) ?_ ?_)
    · exact ⟨rfl, trivial⟩
    · exact ⟨rfl, trivial⟩
  intro y
  have hl3 := hd_short y.ok.short
  have hly := y.ok.len
  have hcy := y.ok.cap
  refine sgs ?_
  refine tx ?_
  refine sr 1 ?_
  refine s1 (y_len_slice rfl rfl Tryz.underlying53) ?_
  refine sr 2 ?_
  refine sg rfl (y_move rfl rfl) ?_
  refine sg rfl (y_here rfl (fun w1 hM => y_indexAddr (j := 0) rfl rfl rfl Tryz.underlying53 sz9 (fun hg => (y.ok.sees.at hM 900 rfl).isSome (by first | omega | simpa using hg)) (fun hg => by first | omega | simpa using hg))) ?_
  refine sg rfl (y_here rfl (fun w1 hM => y_loadT1 (val := str) (xe := y.z.ws.headD []) rfl rfl (y.ok.sees.at hM 900 rfl) (fun hg => hd_get _ (by rw [y.ok.len]; first | omega | simpa using hg)) Tryz.underlying9 rfl)) ?_
  refine sg rfl (y_call rfl rfl rfl cf183 (fun _ w _ => HasPrefix_any _ _ w)) ?_
  refine s1 (y_and rfl rfl rfl) ?_
  refine sgo ?_
  refine T_mid (kf := [(0, 0), (4, 4), (12, 13), (82, 97)]) (kl := [(0, 0), (4, 4), (12, 13), (82, 97), (901, 901)]) (fun u : WdS w0 rs fun u => placeQ z.ws = plC u.fi u.ln u.ad u.ws => [(0, true, .slice u.z.A u.z.q u.z.c)]) (fun u : WdS w0 rs fun u => placeQ z.ws = plC u.fi u.ln u.ad u.ws => [(901, frH b ⟨m, f, u.z.fi, (u.z.ln : Int), u.z.ad, false⟩)]) (by repeat (first | exact kf_nil | (apply kf_in; focus rfl) | (apply kf_out; focus rfl))) (by repeat (first | exact kl_nil | exact kl_rest (by assumption) rfl | (apply kl_in; focus rfl) | (apply kl_out; focus rfl))) ?_ ?_
  · skip
    refine T_cond rfl ?_ ?_ <;> intro h81
    · try simp only [nrm] at h81
      have hq1 : 0 < y.z.ws.length := by omega
      have hw1 := pre_len h81.2
      refine tx ?_
      refine sr 1 ?_
      refine s1 (y_here rfl (fun w1 hM => y_indexAddr (j := 0) rfl rfl rfl Tryz.underlying53 sz9 (fun hg => (y.ok.sees.at hM 900 rfl).isSome (by first | omega | simpa using hg)) (fun hg => by first | omega | simpa using hg))) ?_
      refine s1 (y_here rfl (fun w1 hM => y_loadT1 (val := str) (xe := y.z.ws.headD []) rfl rfl (y.ok.sees.at hM 900 rfl) (fun hg => hd_get _ (by rw [y.ok.len]; first | omega | simpa using hg)) Tryz.underlying9 rfl)) ?_
      refine s1 (y_as (v' := str ((y.z.ws.headD []).drop 1)) (by exact rfl) (y_strFrom rfl rfl rfl Tryz.underlying9 (fun _ => by omega))) ?_
      refine s1 (y_call rfl rfl rfl cf232 (fun _ w _ => number16_any _ 12 (by omega) (by rw [List.length_drop]; omega) w)) ?_
      refine sr 5 ?_
      refine sgs ?_
      refine tx ?_
      refine sr 2 ?_
      refine sgo ?_
      refine T_cond rfl ?_ ?_ <;> intro h91
      · try simp only [nrm] at h91
        have hn16 := plB_none (fi := y.z.fi) (ln := y.z.ln) hq1 h81.2 h91
        refine tx ?_
        refine sr 1 ?_
        refine sgo ?_
        refine tr1 hRb fun w hM => ?_
        exact ⟨⟨m, f, y.z.fi, (y.z.ln : Int), -1, false⟩, by rw [y.says, hn16]; rfl, fun p hp => (by rw [y.says, hn16] at hp; cases hp), hM.keep (ks := [(0, 999)]) (by repeat (first | exact kl_rest (by assumption) rfl | (apply kl_in; focus rfl))) _ ⟨rfl, rfl, trivial⟩⟩
      try simp only [nrm] at h91
      have hn16 := plB_got (fi := y.z.fi) (ln := y.z.ln) hq1 h81.2 h91
      refine kgx ?_
      refine sr 2 ?_
      refine s1 (y_nilCheck rfl rfl) ?_
      refine s1 (yF fa45_4) ?_
      refine S_store 901 rfl rfl rfl rfl rfl rfl sz3 rfl rfl ?_
      refine sgr ?_
      refine sr 1 ?_
      refine s1 (y_slice rfl rfl Tryz.underlying53 sz9 (.inr ⟨_, _, rfl, rfl⟩) (.inl ⟨rfl, rfl⟩) (by show 1 ≤ _; omega) (by omega) (by omega)) ?_
      refine sr 1 ?_
      refine S_nil (mid_end (kf := [(0, 0), (4, 4), (12, 13), (82, 97)]) (kl := [(0, 0), (4, 4), (12, 13), (82, 97), (901, 901)]) (⟨y.z.tl y.z.fi y.z.ln (((numB 16 12 ((y.z.ws.headD []).drop 1)).getD 0 : Nat) : Int), y.ok.tl (by omega), y.says.trans hn16⟩) (by repeat (first | exact kf_nil | (apply kf_in; focus rfl) | (apply kf_out; focus rfl))) (by repeat (first | exact kl_nil | exact kl_rest (by assumption) rfl | (apply kl_in; focus rfl) | (apply kl_out; focus rfl))) ?_ ?_)
      · exact ⟨rfl, trivial⟩
      · exact ⟨rfl, trivial⟩
    try simp only [nrm] at h81
    have hpb := plB_no (ws := y.z.ws) (fi := y.z.fi) (ln := y.z.ln) fun h => h81.resolve_left (by omega)
    refine T_skip (mid_end (kf := [(0, 0), (4, 4), (12, 13), (82, 97)]) (kl := [(0, 0), (4, 4), (12, 13), (82, 97), (901, 901)]) (⟨⟨y.z.A, y.z.q, y.z.c, y.z.ws, y.z.fi, y.z.ln, -1⟩, ⟨y.ok.sees, y.ok.cap, y.ok.short, y.ok.len⟩, y.says.trans hpb⟩) (by repeat (first | exact kf_nil | (apply kf_in; focus rfl) | (apply kf_out; focus rfl))) (by repeat (first | exact kl_nil | exact kl_rest (by assumption) rfl | (apply kl_in; focus rfl) | (apply kl_out; focus rfl))) ?_ ?_)
    · exact ⟨rfl, trivial⟩
    · exact ⟨rfl, trivial⟩
  intro u
  have hlu := u.ok.len
  have hcu := u.ok.cap
  refine sgs ?_
  refine tx ?_
  refine sr 1 ?_
  refine s1 (y_len_slice rfl rfl Tryz.underlying53) ?_
  refine sr 2 ?_
  refine sg rfl (y_move rfl rfl) ?_
  refine sg rfl (y_here rfl (fun w1 hM => y_indexAddr (j := 0) rfl rfl rfl Tryz.underlying53 sz9 (fun hg => (u.ok.sees.at hM 900 rfl).isSome (by first | omega | simpa using hg)) (fun hg => by first | omega | simpa using hg))) ?_
  refine sg rfl (y_here rfl (fun w1 hM => y_loadT1 (val := str) (xe := u.z.ws.headD []) rfl rfl (u.ok.sees.at hM 900 rfl) (fun hg => hd_get _ (by rw [u.ok.len]; first | omega | simpa using hg)) Tryz.underlying9 rfl)) ?_
  refine sg rfl (y_bin rfl rfl rfl (fun _ => b_eqls)) ?_
  refine s1 (y_and rfl rfl rfl) ?_
  refine sgo ?_
  refine T_cond rfl ?_ ?_ <;> intro h106
  · try simp only [nrm] at h106
    have hpc := plC_star (fi := u.z.fi) (ln := u.z.ln) (ad := u.z.ad) (by omega) h106.2
    refine tx ?_
    refine sr 1 ?_
    refine s1 (y_nilCheck rfl rfl) ?_
    refine s1 (yF fa45_5) ?_
    refine S_store 901 rfl rfl rfl rfl rfl rfl sz4 rfl rfl ?_
    refine sgr ?_
    refine sr 1 ?_
    refine s1 (y_slice rfl rfl Tryz.underlying53 sz9 (.inr ⟨_, _, rfl, rfl⟩) (.inl ⟨rfl, rfl⟩) (by show 1 ≤ _; omega) (by omega) (by omega)) ?_
    refine sr 1 ?_
    refine sgx ?_
    refine sr 1 ?_
    refine s1 (y_len_slice rfl rfl Tryz.underlying53) ?_
    refine sr 2 ?_
    refine sgo ?_
    refine tr1 hRb fun w hM => ?_
    have hend := plC_end (m := m) (f := f) (q := u.z.q - 1) (by omega) (u.says.trans hpc) rfl
    exact ⟨_, hend.1, hend.2, hM.keep (ks := [(0, 999)]) (by repeat (first | exact kl_rest (by assumption) rfl | (apply kl_in; focus rfl))) _ ⟨rfl, rfl, trivial⟩⟩
  try simp only [nrm] at h106
  have hpc := plC_no (ws := u.z.ws) (fi := u.z.fi) (ln := u.z.ln) (ad := u.z.ad) fun h => h106.resolve_left (by omega)
  refine kgx ?_
  refine sr 1 ?_
  refine s1 (y_len_slice rfl rfl Tryz.underlying53) ?_
  refine sr 2 ?_
  refine sgo ?_
  refine tr1 hRb fun w hM => ?_
  have hend := plC_end (m := m) (f := f) (q := u.z.q) (by omega) (u.says.trans hpc) rfl
  exact ⟨_, hend.1, hend.2, hM.keep (ks := [(0, 999)]) (by repeat (first | exact kl_rest (by assumption) rfl | (apply kl_in; focus rfl))) _ ⟨rfl, rfl, trivial⟩⟩
theorem split_ne (c : UInt8) (s : List UInt8) : 0 < (splitC c s).length := by rw [splitC_len]; omega
theorem split_short {c : UInt8} : ∀ {s x : List UInt8}, x ∈ splitC c s → x.length ≤ s.length
  | [], x, h => by rw [splitC, List.mem_singleton] at h; subst h; exact Nat.le_refl _
  | a :: r, x, h => by
    rw [splitC] at h
    rw [List.length_cons]
    by_cases e : a = c
    · rw [if_pos e] at h
      rcases List.mem_cons.1 h with rfl | h
      · exact Nat.zero_le _
      · have := split_short h; omega
    · rw [if_neg e] at h
      cases hq : splitC c r with
      | nil => rw [hq] at h; rw [List.mem_singleton.1 h]; simp
      | cons y t =>
        rw [hq] at h
        rcases List.mem_cons.1 h with rfl | h
        · have := split_short (c := c) (s := r) (x := y) (by rw [hq]; exact List.mem_cons_self ..)
          rw [List.length_cons]; omega
        · have := split_short (c := c) (s := r) (x := x) (by rw [hq]; exact List.mem_cons_of_mem _ h)
          omega
theorem frameQ_no {s : List UInt8} (h : callOk ((splitC 32 s).headD []) = false) : frameQ s = none := by
  have h0 := split_ne 32 s
  rw [frameQ]
  generalize splitC 32 s = l at *
  cases l with
  | nil => rfl
  | cons w r => exact if_neg (by rw [show callOk w = false from h]; decide)
theorem frameQ_yes {s : List UInt8} (h : callOk ((splitC 32 s).headD []) = true) : frameQ s = (placeQ ((splitC 32 s).drop 1)).map fun p => ⟨(callM ((splitC 32 s).headD [])).1, (callM ((splitC 32 s).headD [])).2, p.fi, (p.ln : Int), p.ad, p.own⟩ := by
  have h0 := split_ne 32 s
  rw [frameQ]
  generalize splitC 32 s = l at *
  cases l with
  | nil => cases h0
  | cons w r => exact if_pos h
set_option maxHeartbeats 1600000 in
theorem readFrame_any {w0 : World} {K : HL} (hK : FromK K) (s : List UInt8) (hs : s.length ≤ 1000000) (w : World) (hM0 : Mem w0 ([] ++ K) w) :
    Calls Tryz.prog 275 #[str s] w fun e w' => ∃ y : Frm, e = .returned (.tuple #[y.val, .bool (frameQ s).isSome]) ∧ (∀ x, frameQ s = some x → y = x) ∧ Mem w0 ([] ++ K) w' := by
  have h0 := split_ne 32 s
  have hsh : ∀ x ∈ splitC 32 s, x.length ≤ 1000000 := fun x hx => by have := split_short hx; omega
  have hl := hd_short hsh
  refine enterM_args (args := [str s]) (F := _) hM0 Tryz.func275 rfl Tryz.ntmps275 rfl rfl ?_
  intro Rb hRb hRn
  refine tx ?_
  refine S_alloc 2 2 rfl rfl rfl rfl z45 ?_
  intro b2
  refine sr 1 ?_
  refine sgx ?_
  refine S_alloc 4 4 rfl rfl rfl rfl z45 ?_
  intro b4
  refine sgx ?_
  refine sr 1 ?_
  refine S_callOwn 8 8 rfl rfl rfl rfl rfl rfl rfl cf135 (fun A c => .slice A ((splitC 32 s).length) c) 9 1 ((splitC 32 s).length) ((splitC 32 s).flatMap strE) (fun w hM => Split1_any s 32 (by omega) w) ?_
  intro A8 c8
  refine sr 1 ?_
  refine sgx ?_
  refine sr 1 ?_
  refine s1 (y_indexOwnI (j := 0) 8 rfl rfl rfl (fun _ => rfl) rfl Tryz.underlying53 sz9 (fun _ => h0)) ?_
  refine s1 (y_loadO1 8 (val := (fun l : List UInt8 => str l)) rfl rfl rfl rfl (fun _ => hd_get [] h0) Tryz.underlying9 rfl) ?_
  refine S_callM 12 [(901, 4)] (X := Unit) rfl rfl rfl rfl rfl rfl rfl cf236 rfl (fun _ => .bool (callOk ((splitC 32 s).headD []))) (fun _ => True) (fun _ => [(901, frH b4 ⟨(callM ((splitC 32 s).headD [])).1, (callM ((splitC 32 s).headD [])).2, [], 0, 0, false⟩)]) (fun _ => rfl) (fun _ => rfl) (fun K1 hK1 w hM => readCall_any hK1 b4 ⟨[], [], [], 0, 0, false⟩ _ (by omega) w hM) ?_
  intro _ _
  rcases Bool.eq_false_or_eq_true (callOk ((splitC 32 s).headD [])) with hb | hb
  · skip
    refine s1 (y_as (v' := .bool true) (by exact congrArg Value.bool hb) (y_move rfl rfl)) ?_
    refine S_known (p := (splitC 32 s).length ≤ c8) (fun w hM => (row_ok (enc := strE) (hM.sat 8 _ rfl) rfl).cap) fun hc8 => ?_
    refine S_many0 900 ?_
    refine S_bank [(8, 8), (900, 900)] 900 8 rfl rfl rfl rfl (by repeat (first | exact kl_nil | exact kl_rest (by assumption) rfl | (apply kl_in; focus rfl) | (apply kl_out; focus rfl))) ?_
    have hz : WdOk w0 ([] ++ [⟨9, 1, .slice A8 (splitC 32 s).length c8, (splitC 32 s).length, (splitC 32 s).flatMap strE⟩]) ⟨A8, (splitC 32 s).length, c8, splitC 32 s, [], 0, 0⟩ := ⟨(Sees.row (List.mem_singleton.2 rfl) rfl).map fun w h => h.t, hc8, hsh, rfl⟩
    refine sg rfl (y_move rfl rfl) ?_
    refine sg rfl (y_slice rfl rfl Tryz.underlying53 sz9 (.inr ⟨_, _, rfl, rfl⟩) (.inl ⟨rfl, rfl⟩) (by show 1 ≤ _; omega) (by omega) (by omega)) ?_
    refine S_unguard rfl rfl rfl rfl rfl ?_
    refine S_callM 16 [(900, 900), (901, 4)] (X := Frm) rfl rfl rfl rfl rfl rfl rfl cf237 rfl (fun _ => .bool (placeQ ((splitC 32 s).drop 1)).isSome) (fun y => ∀ p, placeQ ((splitC 32 s).drop 1) = some p → y = ⟨(callM ((splitC 32 s).headD [])).1, (callM ((splitC 32 s).headD [])).2, p.fi, (p.ln : Int), p.ad, p.own⟩) (fun y => [(900, .many ([] ++ [(⟨9, 1, .slice A8 (splitC 32 s).length c8, (splitC 32 s).length, (splitC 32 s).flatMap strE⟩ : Row)])), (901, frH b4 y)]) (fun _ => rfl) (fun _ => rfl) (fun K1 hK1 w hM => readPlace_any hK1 b4 _ _ _ (WdR.tl ⟨A8, (splitC 32 s).length, c8, splitC 32 s, [], 0, 0⟩ [] 0 0) (hz.tl h0) w hM) ?_
    intro y hy
    refine s1 (y_and rfl rfl rfl) ?_
    refine sr 1 ?_
    refine sgx ?_
    refine s1 (yA 4 rfl Tryz.underlying45 sz45) ?_
    refine sr 1 ?_
    refine S_store 2 rfl rfl rfl rfl rfl rfl sz45 rfl rfl ?_
    refine sr 1 ?_
    refine sgo ?_
    refine T_ret (fun a w hF hM => hRb a w (post_cell 2 rfl rfl rfl rfl Tryz.underlying45 rfl (by exact sz45) (fun w hM => ?_) a w hF hM))
    exact ⟨y, by rw [frameQ_yes hb, Option.isSome_map]; rfl, fun x hx => by
      rw [frameQ_yes hb] at hx
      obtain ⟨p, hp1, hp2⟩ := Option.map_eq_some_iff.1 hx
      rw [hy p hp1, ← hp2], hM.keep (ks := [(0, 999)]) (by repeat (first | exact kl_rest (by assumption) rfl | (apply kl_in; focus rfl))) _ trivial⟩
  · skip
    refine s1 (y_as (v' := .bool false) (by exact congrArg Value.bool hb) (y_move rfl rfl)) ?_
    refine S_skip 14 rfl rfl rfl rfl rfl rfl rfl ?_
    refine S_skip 15 rfl rfl rfl rfl rfl rfl rfl ?_
    refine S_skip 16 rfl rfl rfl rfl rfl rfl rfl ?_
    refine s1 (y_pickF rfl rfl rfl) ?_
    refine sr 1 ?_
    refine sgx ?_
    refine s1 (yA 4 rfl Tryz.underlying45 sz45) ?_
    refine sr 1 ?_
    refine S_store 2 rfl rfl rfl rfl rfl rfl sz45 rfl rfl ?_
    refine sr 1 ?_
    refine sgo ?_
    refine T_ret (fun a w hF hM => hRb a w (post_cell 2 rfl rfl rfl rfl Tryz.underlying45 rfl (by exact sz45) (fun w hM => ?_) a w hF hM))
    exact ⟨⟨(callM ((splitC 32 s).headD [])).1, (callM ((splitC 32 s).headD [])).2, [], 0, 0, false⟩, by rw [frameQ_no hb]; rfl, fun x hx => (by rw [frameQ_no hb] at hx; cases hx), hM.keep (ks := [(0, 999)]) (by repeat (first | exact kl_rest (by assumption) rfl | (apply kl_in; focus rfl))) _ trivial⟩
/-! ### The line of a fault -/
def badH (s : List UInt8) : Bool := !(cutC 58 s).2.2 || decide ((cutC 58 s).1 = []) || !wordOk [58] (cutC 58 s).1
def hdV (s : List UInt8) : List UInt8 × List UInt8 := if badH s = true then ([], []) else ((cutC 58 s).1, if (cutC 58 s).2.1 = [] then [] else Lib.trimPrefix (cutC 58 s).2.1 [32])
abbrev fltV (k t : List UInt8) : Value := .agg #[str k, str t, .slice none 0 0]
theorem trimP1_of {s : List UInt8} (h : Lib.hasPrefix s [32] = true) : Lib.trimPrefix s [32] = s.drop 1 := by rw [Lib.trimPrefix, if_pos h]; rfl
theorem headQ_bad {s : List UInt8} (h : badH s = true) : headQ s = none := by
  simp only [badH, Bool.or_eq_true, Bool.not_eq_true', decide_eq_true_eq] at h
  exact if_pos (by rcases h with (h | h) | h; exact .inl h; exact .inr (.inl h); exact .inr (.inr h))
theorem headQ_ok {s : List UInt8} (h : badH s = false) : headQ s = if (cutC 58 s).2.1 = [] then some ((cutC 58 s).1, []) else if Lib.hasPrefix (cutC 58 s).2.1 [32] = true ∧ (cutC 58 s).2.1.drop 1 ≠ [] then some ((cutC 58 s).1, (cutC 58 s).2.1.drop 1) else none := by
  simp only [badH, Bool.or_eq_false_iff, Bool.not_eq_false', decide_eq_false_iff_not] at h
  exact if_neg (by rintro (h' | h' | h'); rw [h.1.1] at h'; cases h'; exact h.1.2 h'; rw [h.2] at h'; cases h')
theorem headQ_hdV {s : List UInt8} {k t : List UInt8} (h : headQ s = some (k, t)) : hdV s = (k, t) := by
  cases hb : badH s with
  | true => rw [headQ_bad hb] at h; cases h
  | false =>
    rw [headQ_ok hb] at h
    rw [hdV, if_neg (by rw [hb]; decide)]
    by_cases e : (cutC 58 s).2.1 = []
    · rw [if_pos e] at h ⊢; exact Option.some.inj h
    · rw [if_neg e] at h ⊢
      split at h
      · rename_i h2; rw [trimP1_of h2.1]; exact Option.some.inj h
      · cases h
theorem head_some {s : List UInt8} (hb : badH s = false) (e : (cutC 58 s).2.1 ≠ []) : (headQ s).isSome = (Lib.hasPrefix (cutC 58 s).2.1 [32] && !decide (Lib.trimPrefix (cutC 58 s).2.1 [32] = [])) := by
  rw [headQ_ok hb, if_neg e]
  cases hp : Lib.hasPrefix (cutC 58 s).2.1 [32] with
  | false => rfl
  | true =>
    rw [trimP1_of hp]
    by_cases e2 : (cutC 58 s).2.1.drop 1 = []
    · rw [if_neg (fun h => h.2 e2), decide_eq_true e2]; rfl
    · rw [if_pos ⟨rfl, e2⟩, decide_eq_false e2]; rfl
theorem readHead_any (s : List UInt8) (hs : s.length ≤ 1000000) (w : World) :
    Calls Tryz.prog 274 #[str s] w fun e w' => e = .returned (.tuple #[fltV (hdV s).1 (hdV s).2, .bool (headQ s).isSome]) ∧ Below w.heap.size w w' := by
  have hl := cut_le 58 s
  refine enter_args (args := [str s]) (F := _) Tryz.func274 rfl Tryz.ntmps274 rfl rfl ?_
  intro Rb hRb hRn
  refine tx ?_
  refine S_alloc 2 2 rfl rfl rfl rfl z36 ?_
  intro b2
  refine sr 1 ?_
  refine sgx ?_
  refine sr 1 ?_
  refine s1 (y_call rfl rfl rfl cf79 (fun _ w _ => Cut1_any s 58 w (by omega))) ?_
  refine sr 7 ?_
  refine sgs ?_
  refine tx ?_
  refine sr 3 ?_
  refine sg rfl (y_move rfl rfl) ?_
  refine sg rfl (y_bin rfl rfl rfl (fun _ => b_eqls)) ?_
  refine s1 (y_or rfl rfl rfl) ?_
  refine sr 1 ?_
  refine sg rfl (y_move rfl rfl) ?_
  refine sg rfl (y_call rfl rfl rfl cf148 (fun _ w _ => isWord_any _ _ (by omega) w)) ?_
  refine sg rfl (y_not rfl rfl) ?_
  refine s1 (y_as (v' := .bool (badH s)) (by exact rfl) (y_or rfl rfl rfl)) ?_
  refine sgo ?_
  refine T_cond rfl ?_ ?_ <;> intro h23
  · skip
    have hv : hdV s = ([], []) := if_pos h23
    refine tx ?_
    refine s1 (y_build (zv := .agg #[.string ⟨#[]⟩, .string ⟨#[]⟩, .slice none 0 0]) (pl := [(0, 1), (1, 1), (2, 1)]) (out := [.string ⟨#[]⟩, .string ⟨#[]⟩, .slice none 0 0]) rfl rfl Tryz.underlying36 z36 (by kernel_rfl) rfl) ?_
    refine S_store 2 rfl rfl rfl rfl rfl rfl sz36 rfl rfl ?_
    refine sr 1 ?_
    refine sgo ?_
    refine T_ret (fun a w hF hM => hRb a w (post_cell 2 rfl rfl rfl rfl Tryz.underlying36 rfl (by exact sz36) (fun w hM => ?_) a w hF hM))
    rw [hv, headQ_bad h23]
    exact ⟨rfl, hM.below⟩
  have hv : hdV s = _ := if_neg (by rw [h23]; decide)
  refine kgs ?_
  refine tx ?_
  refine sr 1 ?_
  refine s1 (y_bin rfl rfl rfl (fun _ => b_eqls)) ?_
  refine sgo ?_
  refine T_cond rfl ?_ ?_ <;> intro h26
  · skip
    have he : (cutC 58 s).2.1 = [] := by simpa using h26
    refine tx ?_
    refine sr 1 ?_
    refine s1 (y_build (zv := .agg #[.string ⟨#[]⟩, .string ⟨#[]⟩, .slice none 0 0]) (pl := [(0, 1), (1, 1), (2, 1)]) (out := [_, .string ⟨#[]⟩, .slice none 0 0]) rfl rfl Tryz.underlying36 z36 (by kernel_rfl) rfl) ?_
    refine S_store 2 rfl rfl rfl rfl rfl rfl sz36 rfl rfl ?_
    refine sr 1 ?_
    refine sgo ?_
    refine T_ret (fun a w hF hM => hRb a w (post_cell 2 rfl rfl rfl rfl Tryz.underlying36 rfl (by exact sz36) (fun w hM => ?_) a w hF hM))
    rw [hv, headQ_ok h23, if_pos he, if_pos he]
    exact ⟨rfl, hM.below⟩
  have he : (cutC 58 s).2.1 ≠ [] := by simpa using h26
  refine kgx ?_
  refine sr 1 ?_
  refine s1 (y_call rfl rfl rfl cf198 (fun _ w _ => CutPrefix_any _ _ w)) ?_
  refine sr 5 ?_
  refine sgx ?_
  refine sr 2 ?_
  refine s1 (y_build (zv := .agg #[.string ⟨#[]⟩, .string ⟨#[]⟩, .slice none 0 0]) (pl := [(0, 1), (1, 1), (2, 1)]) (out := [_, _, .slice none 0 0]) rfl rfl Tryz.underlying36 z36 (by kernel_rfl) rfl) ?_
  refine sr 2 ?_
  refine sg rfl (y_move rfl rfl) ?_
  refine sg rfl (y_bin rfl rfl rfl (fun _ => b_neqs)) ?_
  refine s1 (y_and rfl rfl rfl) ?_
  refine S_store 2 rfl rfl rfl rfl rfl rfl sz36 rfl rfl ?_
  refine sr 1 ?_
  refine sgo ?_
  refine T_ret (fun a w hF hM => hRb a w (post_cell 2 rfl rfl rfl rfl Tryz.underlying36 rfl (by exact sz36) (fun w hM => ?_) a w hF hM))
  rw [hv, head_some h23 he, if_neg he]
  exact ⟨rfl, hM.below⟩
end Go.Proofs.YtgbldojgbpgjbaaGreatDoor
end
