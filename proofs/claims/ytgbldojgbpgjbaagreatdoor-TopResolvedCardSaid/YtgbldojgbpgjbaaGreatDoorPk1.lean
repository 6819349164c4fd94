/- Part 1, merged by a program. Conditions as trees: how deep, how many, whether they are right, equal, plain, and for what they hold. Plain trees; no program in sight. Words, names and ids: what the program and the reference say of them. No condition beyond lengths that a machine can hold. Frames: CheckFrame, checkFrames and what the reference has in their places. Conditions: lengths that a machine can hold. Events in plain lists: faults, tags, crumbs, and their faults' codes. No program in sight. Events opened: from the form's reading to 'Evt.Ok'. No condition. Conditions as they lie in memory, and conditions among the arguments opened. No condition. Events are checked: the program's Check and the reference's EventFault. Conditions: those of each theorem. Conditions: too deep, too many, and whether each is right. Conditions: those of each theorem. Conditions: how many within one another, and the text of one. Conditions: those of each theorem. Conditions: whether each is right, and CheckCond. Conditions: those of each theorem. Patterns with stars: what they match, the search that goes back to the last star, and the table of all beginnings. Plain lists; no program in sight. find.Fits: the greedy search. Condition: the lengths are bounded. The reference's Star: a table of what fits. Condition: the lengths are bounded. Lower letters: fitting without regard to letters is fitting of the lowered. Plain lists; no program in sight. The reference's lower, and FitsText. Condition: the lengths are bounded. Events are compared, and what is asked of one: Same, Tag, Levels, and the reference's. Conditions: those of each theorem. What is made plain is right where the condition was, is plain, is no greater, and holds for the same. Plain trees; no program in sight. Events that are right are small, and what a leaf of a condition asks of an event. No program in sight. A function value that asks something of what it is given, kept for all later worlds; whether one of a list is such. Conditions: those of each theorem. The functions that find.test returns ask what they ought to. Conditions: those of each theorem. find.test: the function value that it returns asks what its condition holds for. Conditions: the condition is right. find.Holds of the condition that asks for a frame's function. Conditions: those of each theorem. The digest of a string: Sum, FormatUint in base 16 and Repeat of a nought. Conditions: the table of trailing noughts holds Go's numbers. strings.Builder: what its methods do to a builder that the caller has made. Conditions: those of each theorem. Clones of faults, tags and crumbs; frames put together, and cut. Conditions: those of each theorem. Strings: one byte looked for, cut and split at it, suffixes; words in a list. Conditions: those of each theorem. Numbers and names of releases, and what is parsed of one release that is given. Conditions: those of each theorem. -/
import Derived.Test.YtgbldojgbpgjbaaGreatDoorZip
import Derived.Test.YtgbldojgbpgjbaaGreatDoorOpen
import Derived.Test.YtgbldojgbpgjbaaGreatDoorLem
import Derived.Test.YtgbldojgbpgjbaaGreatDoorShelf
import Derived.Shelf.Strings.SlTrimAscii
import Derived.Test.YtgbldojgbpgjbaaGreatDoorApp
import Derived.Test.YtgbldojgbpgjbaaGreatDoorOpnN
import Derived.Test.YtgbldojgbpgjbaaGreatDoorRows
import Derived.Test.YtgbldojgbpgjbaaGreatDoorOpsB
import Derived.Test.YtgbldojgbpgjbaaGreatDoorTail
import Derived.Test.YtgbldojgbpgjbaaGreatDoorCopy
import Derived.Test.YtgbldojgbpgjbaaGreatDoorMov
import Derived.Test.YtgbldojgbpgjbaaGreatDoorSwp
import Derived.Test.YtgbldojgbpgjbaaGreatDoorByw
import Derived.Test.YtgbldojgbpgjbaaGreatDoorBxr
import Derived.Test.YtgbldojgbpgjbaaGreatDoorArr
import Derived.Test.YtgbldojgbpgjbaaGreatDoorBld
import Derived.Test.YtgbldojgbpgjbaaGreatDoorMany
import Derived.Test.YtgbldojgbpgjbaaGreatDoorByt
import Derived.Test.YtgbldojgbpgjbaaGreatDoorClr
import Derived.Test.YtgbldojgbpgjbaaGreatDoorIfc
section
namespace Go.Proofs.YtgbldojgbpgjbaaGreatDoor
set_option linter.unusedSimpArgs false
set_option linter.unusedVariables false
set_option maxRecDepth 20000
open Go.RowKit Go.Eng
inductive PC where
  | mk (op : Int) (kids : List PC) (lo hi : Int) (name text : List UInt8)
def PC.op : PC → Int | .mk op _ _ _ _ _ => op
def PC.kids : PC → List PC | .mk _ k _ _ _ _ => k
def PC.lo : PC → Int | .mk _ _ lo _ _ _ => lo
def PC.hi : PC → Int | .mk _ _ _ hi _ _ => hi
def PC.name : PC → List UInt8 | .mk _ _ _ _ n _ => n
def PC.text : PC → List UInt8 | .mk _ _ _ _ _ t => t
mutual
def cntP : PC → Nat
  | .mk _ kids _ _ _ _ => cntL kids + 1
def cntL : List PC → Nat
  | [] => 0
  | k :: r => cntP k + cntL r
end
theorem cntP_pos (c : PC) : 1 ≤ cntP c := by cases c; simp [cntP]
mutual
def depP : PC → Nat
  | .mk _ kids _ _ _ _ => depL kids + 1
def depL : List PC → Nat
  | [] => 0
  | k :: r => max (depP k) (depL r)
end
theorem depL_mem : ∀ {l : List PC} {k : PC}, k ∈ l → depP k ≤ depL l
  | a :: r, k, h => by
    rw [depL]
    rcases List.mem_cons.1 h with rfl | h
    · omega
    · have := depL_mem h; omega
theorem depP_kid {c k : PC} (h : k ∈ c.kids) : depP k < depP c := by
  cases c
  have := depL_mem h
  rw [depP]
  exact Nat.lt_succ_of_le this
/-- more than m within one another -/
def deepP : Nat → PC → Bool
  | 0, _ => true
  | m + 1, c => c.kids.any (deepP m)
mutual
def sizeP : PC → Int → Int
  | .mk _ kids _ _ _ _, most => sizeL kids 1 most
def sizeL : List PC → Int → Int → Int
  | [], n, _ => n
  | k :: r, n, most => if most < n then n else sizeL r (n + sizeP k (most - n)) most
end
mutual
theorem sizeP_eq : ∀ (c : PC) (most : Int), 0 ≤ most → sizeP c most = min (cntP c : Int) (most + 1)
  | .mk _ kids _ _ _ _, most, h => by
    rw [sizeP, sizeL_eq kids 1 most (by omega) (by omega), cntP]
    omega
theorem sizeL_eq : ∀ (l : List PC) (n most : Int), 1 ≤ n → n ≤ most + 1 → sizeL l n most = min (n + cntL l) (most + 1)
  | [], n, most, h1, h2 => by rw [sizeL, cntL]; omega
  | k :: r, n, most, h1, h2 => by
    rw [sizeL, cntL]
    have := cntP_pos k
    split
    · omega
    · rw [sizeP_eq k (most - n) (by omega), sizeL_eq r _ most (by omega) (by omega)]
      omega
end
def inB (n lo hi : Int) : Bool := !(decide (n < lo) || decide (hi < n))
def grpB (op : Int) : Bool := decide (op ≤ 3)
def rngB (op : Int) : Bool := decide (4 ≤ op) && decide (op ≤ 6)
def nmdB (op : Int) : Bool := decide (op = 7) || decide (op = 8)
def wrdB (op : Int) : Bool := decide (op = 7) || decide (9 ≤ op)
def loR (op : Int) : Int := if op = 5 then 0 else 1
def hiR (op : Int) : Int := if op = 5 then 3155759999 else if op = 6 then 1000000 else 5
/-! ### Equal -/
mutual
def sameP : PC → PC → Bool
  | .mk op kids lo hi n t, .mk op' kids' lo' hi' n' t' => decide (op = op') && (decide (lo = lo') && (decide (hi = hi') && (decide (n = n') && (decide (t = t') && sameL kids kids'))))
def sameL : List PC → List PC → Bool
  | [], [] => true
  | a :: r, b :: s => sameP a b && sameL r s
  | [], _ :: _ => false
  | _ :: _, [] => false
end
mutual
theorem sameP_refl : ∀ c : PC, sameP c c = true
  | .mk op kids lo hi n t => by simp [sameP, sameL_refl kids]
theorem sameL_refl : ∀ l : List PC, sameL l l = true
  | [] => rfl
  | a :: r => by rw [sameL, sameP_refl a, sameL_refl r]; rfl
end
/-! ### Plain -/
def joinB (op : Int) (k : PC) : Bool := (decide (op = 1) || decide (op = 2)) && decide (k.op = op)
def addK (op : Int) (out : List PC) (k : PC) : List PC := if joinB op k = true then out ++ k.kids else out ++ [k]
def pc0 : PC := .mk 0 [] 0 0 [] []
def finP (op : Int) (kids : List PC) (lo hi : Int) (n t : List UInt8) : PC :=
  if op = 3 ∧ (kids.getD 0 pc0).op = 3 then (kids.getD 0 pc0).kids.getD 0 pc0 else .mk op kids lo hi n t
mutual
def plainP : PC → PC
  | .mk op kids lo hi n t => finP op (plainL op kids []) lo hi n t
def plainL (op : Int) : List PC → List PC → List PC
  | [], out => out
  | k :: r, out => plainL op r (addK op out (plainP k))
end
/-! ### Holds -/
mutual
def holdsP (lf : PC → Bool) : PC → Bool
  | .mk op kids lo hi n t => if op = 1 then holdsA lf kids else if op = 2 then holdsO lf kids else if op = 3 then !holdsF lf kids else lf (.mk op [] lo hi n t)
def holdsA (lf : PC → Bool) : List PC → Bool
  | [] => true
  | k :: r => holdsP lf k && holdsA lf r
def holdsO (lf : PC → Bool) : List PC → Bool
  | [] => false
  | k :: r => holdsP lf k || holdsO lf r
def holdsF (lf : PC → Bool) : List PC → Bool
  | [] => false
  | k :: _ => holdsP lf k
end
theorem holdsA_all (lf : PC → Bool) : ∀ l : List PC, holdsA lf l = l.all (holdsP lf)
  | [] => rfl
  | k :: r => by rw [holdsA, holdsA_all lf r, List.all_cons]
theorem holdsO_any (lf : PC → Bool) : ∀ l : List PC, holdsO lf l = l.any (holdsP lf)
  | [] => rfl
  | k :: r => by rw [holdsO, holdsO_any lf r, List.any_cons]
/-! ### Right -/
/-- what a condition without its kids is asked: 'nk' is how many kids it has -/
def chdNo (txt : List UInt8 → Int) (nm : List UInt8 → Bool) (op : Int) (nk : Nat) (lo hi : Int) (n t : List UInt8) : Int :=
  if inB op 1 14 = false then 10
  else if (decide (0 < nk) && !grpB op || ((!decide (lo = 0) || !decide (hi = 0)) && !rngB op) || (!decide (n = []) && !nmdB op) || (!decide (t = []) && !wrdB op)) = true then 1
  else if ((decide (op = 1) || decide (op = 2)) && decide (nk < 2) || decide (op = 3) && !decide (nk = 1)) = true then 1
  else if (rngB op && (!inB lo (loR op) (hiR op) || !inB hi (loR op) (hiR op))) = true then 2
  else if (rngB op && decide (hi < lo)) = true then 5
  else if (nmdB op && !nm n) = true then 3
  else if wrdB op = true then txt t else 0
section
variable (hd : Int → Nat → Int → Int → List UInt8 → List UInt8 → Int)
mutual
def chkP : PC → Int
  | .mk op kids lo hi n t => if hd op kids.length lo hi n t ≠ 0 then hd op kids.length lo hi n t else chkL kids
def chkL : List PC → Int
  | [] => 0
  | k :: r => if chkP k ≠ 0 then chkP k else chkL r
end
end
end Go.Proofs.YtgbldojgbpgjbaaGreatDoor
end
section
namespace Go.Proofs.YtgbldojgbpgjbaaGreatDoor
set_option linter.unusedSimpArgs false
set_option linter.unusedVariables false
set_option maxRecDepth 20000
open Go.RowKit Go.Eng
theorem IndexByte_any (s : List UInt8) (c : UInt8) (w : World) :
    Calls Tryz.prog 210 #[str s, .int .u8 (c.toNat : Int)] w fun e w' => e = .returned (.int .i64 (Lib.indexByte s c)) ∧ Below w.heap.size w w' := by
  refine (Tryz.strings_IndexByte ⟨s.toArray⟩ (c.toNat : Int) w).mono fun e w' ⟨h1, h2⟩ => ⟨?_, h2 ▸ Below.refl _ _⟩
  rw [h1]; simp
def hexs : List UInt8 := [48, 49, 50, 51, 52, 53, 54, 55, 56, 57, 97, 98, 99, 100, 101, 102]
theorem TrimHex_any (s : List UInt8) (hs : s.length ≤ 1000) (w : World) :
    Calls Tryz.prog 60 #[str s, str hexs] w fun e w' => e = .returned (str (Lib.trimS s hexs)) ∧ Below w.heap.size w w' :=
  Any.strings_Trim_laid Tryz.lays160 (by kernel_rfl) ⟨s.toArray⟩ ⟨hexs.toArray⟩ w (by rw [Lib.size_eq]; simp; omega) (by decide) (ascii_of_all (by decide))

/-- 16 digits of base 16 -/
def idOk (s : List UInt8) : Bool := decide ((s.length : Int) = 16) && decide (Lib.trimS s hexs = [])
/-- visible bytes alone, none of some others -/
def byteBad (wo : List UInt8) (c : UInt8) : Bool := decide ((c.toNat : Int) < 33) || decide ((126 : Int) < (c.toNat : Int)) || wo.contains c
def wordOk (wo s : List UInt8) : Bool := !(s.any (byteBad wo))
theorem wordOk_bad {wo : List UInt8} {c : UInt8} {r : List UInt8} (h : byteBad wo c = true) : wordOk wo (c :: r) = false := by simp [wordOk, h]
theorem wordOk_next {wo : List UInt8} {c : UInt8} {r : List UInt8} (h : byteBad wo c = false) : wordOk wo (c :: r) = wordOk wo r := by simp [wordOk, h]
theorem isWord_any (s wo : List UInt8) (hs : s.length ≤ 4611686018427387904) (w : World) :
    Calls Tryz.prog 148 #[str s, str wo] w fun e w' => e = .returned (.bool (wordOk wo s)) ∧ Below w.heap.size w w' := by
  refine enter_args (args := [str s, str wo]) (F := _) Tryz.func148 rfl Tryz.ntmps148 rfl rfl ?_
  intro Rb hRb hRn
  refine tx ?_
  refine sr 1 ?_
  refine sgs ?_
  refine tx ?_
  refine sr 1 ?_
  refine s1 (y_len_str rfl rfl Tryz.underlying9) ?_
  refine sr 1 ?_
  refine sgo ?_
  refine T_block ?_
  refine lK1 (kf := [(4, 5), (8, 29)]) (kl := [(4, 5), (8, 29)]) (fun (i : Nat) => [(8, true, .int .i64 (i : Int))]) (fun (i : Nat) => []) (fun (i : Nat) => i ≤ s.length ∧ wordOk wo s = wordOk wo (s.drop i)) (fun (i : Nat) => s.length - i) 0 ?_ ?_ ?_ ?_
  · exact ⟨by omega, rfl⟩
  · exact ⟨rfl, trivial⟩
  · exact trivial
  rintro i ⟨hp1, hp2⟩
  refine tx ?_
  refine sr 1 ?_
  refine sgs ?_
  refine T_cond rfl ?_ ?_ <;> intro h9
  · try simp only [nrm] at h9
    refine kgs ?_
    refine T_block ?_
    refine tx ?_
    refine sr 2 ?_
    refine sgx ?_
    refine sr 2 ?_
    refine s1 (y_index_str rfl rfl rfl Tryz.underlying9 (fun _ => by omega)) ?_
    refine sr 2 ?_
    refine sg rfl (y_move rfl rfl) ?_
    refine sg rfl (y_move rfl rfl) ?_
    refine sg rfl (y_index_str rfl rfl rfl Tryz.underlying9 (fun hg => by simp only [Bool.true_and, Bool.and_eq_true, beq_iff_eq, decide_eq_true_eq, decide_eq_false_iff_not, Int.not_lt, Int.not_le] at hg; omega)) ?_
    refine sg rfl (y_bin rfl rfl rfl (fun _ => b_gtr)) ?_
    refine s1 (y_or rfl rfl rfl) ?_
    refine sr 1 ?_
    refine sg rfl (y_move rfl rfl) ?_
    refine sg rfl (y_move rfl rfl) ?_
    refine sg rfl (y_move rfl rfl) ?_
    refine sg rfl (y_index_str rfl rfl rfl Tryz.underlying9 (fun hg => by simp only [Bool.true_and, Bool.and_eq_true, beq_iff_eq, decide_eq_true_eq, decide_eq_false_iff_not, Int.not_lt, Int.not_le] at hg; omega)) ?_
    refine sg rfl (y_call rfl rfl rfl cf210 (fun _ w _ => IndexByte_any _ _ w)) ?_
    refine sg rfl (y_as (v' := .bool (wo.contains (s.getD i 0))) (by rw [Lib.contains_iff_indexByte]) (y_bin rfl rfl rfl (fun _ => b_geq))) ?_
    refine s1 (y_as (v' := .bool (byteBad wo (s.getD i 0))) (by exact rfl) (y_or rfl rfl rfl)) ?_
    refine sgo ?_
    refine T_cond rfl ?_ ?_ <;> intro h28
    · skip
      refine tx ?_
      refine sr 1 ?_
      refine sgo ?_
      refine tr1 hRb fun w hM => ?_
      exact ⟨by rw [hp2, drop_str (by omega), wordOk_bad h28], hM.below⟩
    refine kgr ?_
    refine s1 (y_bin rfl rfl rfl (fun hg => b_add (by omega))) ?_
    refine sr 1 ?_
    refine S_nil (nK1 (kf := [(4, 5), (8, 29)]) (kl := [(4, 5), (8, 29)]) (i + 1) ?_ ?_ ?_ ?_)
    · omega
    · exact ⟨by omega, by rw [hp2, drop_str (by omega), wordOk_next h28]⟩
    · exact ⟨rfl, trivial⟩
    · exact trivial
  try simp only [nrm] at h9
  refine egx ?_
  refine sr 1 ?_
  refine sgo ?_
  refine tr1 hRb fun w hM => ?_
  exact ⟨by rw [hp2, List.drop_eq_nil_of_le (by omega)]; rfl, hM.below⟩
end Go.Proofs.YtgbldojgbpgjbaaGreatDoor
end
section
namespace Go.Proofs.YtgbldojgbpgjbaaGreatDoor
set_option linter.unusedSimpArgs false
set_option linter.unusedVariables false
set_option maxRecDepth 20000
open Go.RowKit Go.Eng
abbrev marks : List UInt8 := [40, 41, 58, 44]
/-- the fault of three words of a frame -/
def wordsNo (m f fi : List UInt8) : Int :=
  if (decide ((200 : Int) < (m.length : Int)) || decide ((200 : Int) < (f.length : Int)) || decide ((200 : Int) < (fi.length : Int))) = true then 4
  else if (!(wordOk marks m) || !(wordOk marks f) || !(wordOk marks fi)) = true then 9
  else if f = [] then 1 else 0
theorem if_t {α : Type} {c : Bool} {a b : α} (h : c = true) : (if c = true then a else b) = a := if_pos h
theorem if_f {α : Type} {c : Bool} {a b : α} (h : c = false) : (if c = true then a else b) = b := if_neg (by simp [h])
structure Frm where
  m : List UInt8
  f : List UInt8
  fi : List UInt8
  ln : Int
  ad : Int
  own : Bool
def Frm.enc (x : Frm) : List Value := [str x.m, str x.f, str x.fi, .int .i64 x.ln, .int .i64 x.ad, .bool x.own]
def Frm.val (x : Frm) : Value := .agg x.enc.toArray
/-- the fault of a frame -/
def frmNo (x : Frm) : Int :=
  if wordsNo x.m x.f x.fi ≠ 0 then wordsNo x.m x.f x.fi
  else if (decide (x.ln < 0) || decide (9999999 < x.ln) || (decide (x.ad < -1) || decide (281474976710655 < x.ad))) = true then 2
  else if x.ln ≠ 0 ∧ x.fi = [] then 1 else 0
theorem frmNo_words {x : Frm} {k : Int} (h : wordsNo x.m x.f x.fi = k) (hk : k ≠ 0) : frmNo x = k := by unfold frmNo; rw [h, if_pos hk]
theorem frmNo_rest {x : Frm} (h : wordsNo x.m x.f x.fi = 0) : frmNo x = if (decide (x.ln < 0) || decide (9999999 < x.ln) || (decide (x.ad < -1) || decide (281474976710655 < x.ad))) = true then 2
  else if x.ln ≠ 0 ∧ x.fi = [] then 1 else 0 := by unfold frmNo; rw [h, if_neg (by simp)]
theorem soutside_any (n lo hi : Int) (w : World) :
    Calls Tryz.prog 71 #[.int .i64 n, .int .i64 lo, .int .i64 hi] w fun e w' => e = .returned (.bool (decide (n < lo) || decide (hi < n))) ∧ Below w.heap.size w w' := by
  refine enter_args (args := [.int .i64 n, .int .i64 lo, .int .i64 hi]) (F := _) Tryz.func71 rfl Tryz.ntmps71 rfl rfl ?_
  intro Rb hRb hRn
  refine tx ?_
  refine sr 1 ?_
  refine sgx ?_
  refine sr 4 ?_
  refine sg rfl (y_move rfl rfl) ?_
  refine sg rfl (y_move rfl rfl) ?_
  refine sg rfl (y_bin rfl rfl rfl (fun _ => b_gtr)) ?_
  refine s1 (y_or rfl rfl rfl) ?_
  refine sr 1 ?_
  refine sgo ?_
  refine tr1 hRb fun w hM => ?_
  exact ⟨rfl, hM.below⟩
theorem CheckFrame_any (x : Frm) (hl1 : x.m.length ≤ 4611686018427387904) (hl2 : x.f.length ≤ 4611686018427387904) (hl3 : x.fi.length ≤ 4611686018427387904) (w : World) :
    Calls Tryz.prog 152 #[x.val] w fun e w' => e = .returned (.int .i64 (frmNo x)) ∧ Below w.heap.size w w' := by
  obtain ⟨m, f, fi, ln, ad, own⟩ := x
  simp only at hl1 hl2 hl3
  refine enter_args (args := [.agg #[str m, str f, str fi, .int .i64 ln, .int .i64 ad, .bool own]]) (F := _) Tryz.func152 rfl Tryz.ntmps152 rfl rfl ?_
  intro Rb hRb hRn
  refine tx ?_
  refine S_box 1 1 rfl rfl rfl rfl rfl ?_
  intro b1
  refine sr 1 ?_
  refine sgs ?_
  refine T_block ?_
  refine tx ?_
  refine s1 (yF fa45_0) ?_
  refine s1 (yL 1 Tryz.underlying9) ?_
  refine s1 (y_len_str rfl rfl Tryz.underlying9) ?_
  refine sr 2 ?_
  refine sg rfl (yF fa45_1) ?_
  refine sg rfl (yL 1 Tryz.underlying9) ?_
  refine sg rfl (y_len_str rfl rfl Tryz.underlying9) ?_
  refine sg rfl (y_bin rfl rfl rfl (fun _ => b_gtr)) ?_
  refine s1 (y_or rfl rfl rfl) ?_
  refine sr 1 ?_
  refine sg rfl (yF fa45_2) ?_
  refine sg rfl (yL 1 Tryz.underlying9) ?_
  refine sg rfl (y_len_str rfl rfl Tryz.underlying9) ?_
  refine sg rfl (y_bin rfl rfl rfl (fun _ => b_gtr)) ?_
  refine s1 (y_or rfl rfl rfl) ?_
  refine sr 1 ?_
  refine sgo ?_
  refine T_cond rfl ?_ ?_ <;> intro h3
  · skip
    refine tx ?_
    refine sr 1 ?_
    refine sgo ?_
    refine tr1 hRb fun w hM => ?_
    exact ⟨by rw [frmNo_words (x := ⟨m, f, fi, ln, ad, own⟩) (if_t h3) (by decide)], hM.below⟩
  refine tx ?_
  refine s1 (yF fa45_0) ?_
  refine s1 (yL 1 Tryz.underlying9) ?_
  refine s1 (y_call rfl rfl rfl cf148 (fun hg w _ => isWord_any _ _ (by first | omega | (have := hsz; omega)) w)) ?_
  refine sr 2 ?_
  refine sg rfl (yF fa45_1) ?_
  refine sg rfl (yL 1 Tryz.underlying9) ?_
  refine sg rfl (y_call rfl rfl rfl cf148 (fun hg w _ => isWord_any _ _ (by first | omega | (have := hsz; omega)) w)) ?_
  refine sg rfl (y_not rfl rfl) ?_
  refine s1 (y_or rfl rfl rfl) ?_
  refine sr 1 ?_
  refine sg rfl (yF fa45_2) ?_
  refine sg rfl (yL 1 Tryz.underlying9) ?_
  refine sg rfl (y_call rfl rfl rfl cf148 (fun hg w _ => isWord_any _ _ (by first | omega | (have := hsz; omega)) w)) ?_
  refine sg rfl (y_not rfl rfl) ?_
  refine s1 (y_or rfl rfl rfl) ?_
  refine sr 1 ?_
  refine sgo ?_
  refine T_cond rfl ?_ ?_ <;> intro h20
  · skip
    refine tx ?_
    refine sr 1 ?_
    refine sgo ?_
    refine tr1 hRb fun w hM => ?_
    exact ⟨by rw [frmNo_words (x := ⟨m, f, fi, ln, ad, own⟩) ((if_f h3).trans (if_t h20)) (by decide)], hM.below⟩
  refine tx ?_
  refine s1 (yF fa45_1) ?_
  refine s1 (yL 1 Tryz.underlying9) ?_
  refine s1 (y_bin rfl rfl rfl (fun _ => b_eqls)) ?_
  refine sr 1 ?_
  refine sgo ?_
  refine T_cond rfl ?_ ?_ <;> intro h37
  · skip
    refine tx ?_
    refine sr 1 ?_
    refine sgo ?_
    refine tr1 hRb fun w hM => ?_
    exact ⟨by rw [frmNo_words (x := ⟨m, f, fi, ln, ad, own⟩) ((if_f h3).trans ((if_f h20).trans (if_pos (by simpa using h37)))) (by decide)], hM.below⟩
  refine tx ?_
  refine s1 (yF fa45_3) ?_
  refine s1 (yL 1 Tryz.underlying3) ?_
  refine s1 (y_call rfl rfl rfl cf71 (fun _ w _ => soutside_any _ _ _ w)) ?_
  refine sr 1 ?_
  refine sg rfl (yF fa45_4) ?_
  refine sg rfl (yL 1 Tryz.underlying3) ?_
  refine sg rfl (y_call rfl rfl rfl cf71 (fun _ w _ => soutside_any _ _ _ w)) ?_
  refine s1 (y_or rfl rfl rfl) ?_
  refine sr 1 ?_
  refine sgo ?_
  refine T_cond rfl ?_ ?_ <;> intro h41
  · skip
    refine tx ?_
    refine sr 1 ?_
    refine sgo ?_
    refine tr1 hRb fun w hM => ?_
    exact ⟨by rw [frmNo_rest (x := ⟨m, f, fi, ln, ad, own⟩) ((if_f h3).trans ((if_f h20).trans (if_neg (by simpa using h37)))), if_t h41], hM.below⟩
  refine tx ?_
  refine s1 (yF fa45_3) ?_
  refine s1 (yL 1 Tryz.underlying3) ?_
  refine sr 2 ?_
  refine sg rfl (yF fa45_2) ?_
  refine sg rfl (yL 1 Tryz.underlying9) ?_
  refine sg rfl (y_bin rfl rfl rfl (fun _ => b_eqls)) ?_
  refine s1 (y_and rfl rfl rfl) ?_
  refine sr 1 ?_
  refine sgo ?_
  refine T_cond rfl ?_ ?_ <;> intro h50
  · skip
    refine tx ?_
    refine sr 1 ?_
    refine sgo ?_
    refine tr1 hRb fun w hM => ?_
    exact ⟨by rw [frmNo_rest (x := ⟨m, f, fi, ln, ad, own⟩) ((if_f h3).trans ((if_f h20).trans (if_neg (by simpa using h37)))), if_f h41, if_pos (by simpa using h50)], hM.below⟩
  refine kgx ?_
  refine sr 1 ?_
  refine sgo ?_
  refine tr1 hRb fun w hM => ?_
  exact ⟨by rw [frmNo_rest (x := ⟨m, f, fi, ln, ad, own⟩) ((if_f h3).trans ((if_f h20).trans (if_neg (by simpa using h37)))), if_f h41, if_neg (by simpa using h50)], hM.below⟩

/-! ### The reference's -/
theorem any_t {α : Type} {p : α → Bool} {a : α} {r : List α} (h : p a = true) : (a :: r).any p = true := by simp [h]
theorem any_f {α : Type} {p : α → Bool} {a : α} {r : List α} (h : p a = false) : (a :: r).any p = r.any p := by simp [h]
theorem mem_at {α : Type} {l : List α} {i : Nat} {x : α} (h : l[i]? = some x) : x ∈ l := List.mem_of_getElem? h
structure FrmsOk (w : World) (l : Sl Frm) : Prop where
  ok : l.Ok Frm.enc 6 w
  q : l.q ≤ 4611686018427387904
  n : ∀ f ∈ l.l, f.m.length ≤ 4611686018427387904 ∧ f.f.length ≤ 4611686018427387904 ∧ f.fi.length ≤ 4611686018427387904
theorem FrmsOk.below {w w' : World} {l : Sl Frm} (h : FrmsOk w l) (hb : Below w.heap.size w w') : FrmsOk w' l := ⟨h.ok.below hb, h.q, h.n⟩
def frmsNo : List Frm → Int
  | [] => 0
  | f :: r => if frmNo f ≠ 0 then frmNo f else frmsNo r
def framesNo (l : Sl Frm) : Int := if (200 : Int) < l.q then 4 else frmsNo l.l
theorem checkFrames_any (l : Sl Frm) (w : World) (hl : FrmsOk w l) :
    Calls Tryz.prog 149 #[.slice l.A l.q l.c] w fun e w' => e = .returned (.int .i64 (framesNo l)) ∧ Below w.heap.size w w' := by
  have ht := hl.ok.t
  have hq := hl.q
  refine enter_args (args := [.slice l.A l.q l.c]) (F := _) Tryz.func149 rfl Tryz.ntmps149 rfl rfl ?_
  intro Rb hRb hRn
  refine tx ?_
  refine sr 1 ?_
  refine sgs ?_
  refine tx ?_
  refine sr 1 ?_
  refine s1 (y_len_slice rfl rfl Tryz.underlying32) ?_
  refine sr 1 ?_
  refine sgo ?_
  refine T_cond rfl ?_ ?_ <;> intro h8
  · try simp only [nrm] at h8
    refine tx ?_
    refine sr 1 ?_
    refine sgo ?_
    refine tr1 hRb fun w hM => ?_
    exact ⟨by rw [framesNo, if_pos (by omega)], hM.below⟩
  try simp only [nrm] at h8
  refine kgs ?_
  refine tx ?_
  refine sr 1 ?_
  refine s1 (y_len_slice rfl rfl Tryz.underlying32) ?_
  refine sr 1 ?_
  refine sgo ?_
  refine T_block ?_
  refine lK1 (kf := [(2, 2), (4, 5), (11, 20)]) (kl := [(2, 2), (4, 5), (11, 20)]) (fun (i : Nat) => [(11, true, .int .i64 (i : Int))]) (fun (i : Nat) => []) (fun (i : Nat) => i ≤ l.q ∧ frmsNo l.l = frmsNo (l.l.drop i)) (fun (i : Nat) => l.q - i) 0 ?_ ?_ ?_ ?_
  · exact ⟨by omega, rfl⟩
  · exact ⟨rfl, trivial⟩
  · exact trivial
  rintro i ⟨hp1, hp2⟩
  refine tx ?_
  refine sr 1 ?_
  refine sgs ?_
  refine T_cond rfl ?_ ?_ <;> intro h12
  · try simp only [nrm] at h12
    obtain ⟨x, hx1, hx2⟩ := ht.at (i := i) (by omega)
    have hn := hl.n x (mem_at hx1)
    refine kgs ?_
    refine T_block ?_
    refine tx ?_
    refine s1 (y_indexAddr rfl rfl rfl Tryz.underlying32 sz45 (fun hg => ht.isSome (by omega)) (fun _ => by omega)) ?_
    refine s1 (y_loadT rfl rfl ht (fun _ => rfl) (fun _ => hx1) Tryz.underlying45 rfl sz45) ?_
    refine S_alloc 4 4 rfl rfl rfl rfl z45 ?_
    intro b4
    refine S_store 4 rfl rfl rfl rfl rfl rfl sz45 rfl rfl ?_
    refine sgx ?_
    refine s1 (yA 4 rfl Tryz.underlying45 sz45) ?_
    refine s1 (y_call rfl rfl rfl cf152 (fun _ w _ => CheckFrame_any x hn.1 hn.2.1 hn.2.2 w)) ?_
    refine sr 1 ?_
    refine sgx ?_
    refine sr 2 ?_
    refine sgo ?_
    refine T_cond rfl ?_ ?_ <;> intro h18
    · try simp only [nrm] at h18
      refine tx ?_
      refine sr 2 ?_
      refine sgo ?_
      refine tr1 hRb fun w hM => ?_
      exact ⟨by rw [framesNo, if_neg (by omega), hp2, hx2, frmsNo, if_pos h18], hM.below⟩
    try simp only [nrm] at h18
    refine kgr ?_
    refine s1 (y_bin rfl rfl rfl (fun hg => b_add (by omega))) ?_
    refine sr 1 ?_
    refine S_nil (nK1 (kf := [(2, 2), (4, 5), (11, 20)]) (kl := [(2, 2), (4, 5), (11, 20)]) (i + 1) ?_ ?_ ?_ ?_)
    · omega
    · exact ⟨by omega, by rw [hp2, hx2, frmsNo, if_neg (by simpa using h18)]⟩
    · exact ⟨rfl, trivial⟩
    · exact trivial
  try simp only [nrm] at h12
  refine egx ?_
  refine sr 1 ?_
  refine sgo ?_
  refine tr1 hRb fun w hM => ?_
  exact ⟨by rw [framesNo, if_neg (by omega), hp2, ht.end (by omega)]; rfl, hM.below⟩
end Go.Proofs.YtgbldojgbpgjbaaGreatDoor
end
section
namespace Go.Proofs.YtgbldojgbpgjbaaGreatDoor
set_option linter.unusedSimpArgs false
set_option linter.unusedVariables false
set_option maxRecDepth 20000
open Go.RowKit Go.Eng
/-- a name: 1 to 40 bytes, the first one a small letter -/
def nameBs : List UInt8 := [97, 98, 99, 100, 101, 102, 103, 104, 105, 106, 107, 108, 109, 110, 111, 112, 113, 114, 115, 116, 117, 118, 119, 120, 121, 122, 48, 49, 50, 51, 52, 53, 54, 55, 56, 57, 45, 46, 95]
def nameOk (s : List UInt8) : Bool := !decide (s = []) && decide ((s.length : Int) ≤ 40) && decide ((97 : Int) ≤ ((s.getD 0 0).toNat : Int)) && decide (((s.getD 0 0).toNat : Int) ≤ 122) && decide (Lib.trimS s nameBs = [])
def valBad (c : UInt8) : Bool := decide ((c.toNat : Int) < 32) || decide ((126 : Int) < (c.toNat : Int))
def sayBad (c : UInt8) : Bool := decide ((c.toNat : Int) < 32) || decide ((c.toNat : Int) = 127)
def valNo (s : List UInt8) : Int := if (200 : Int) < s.length then 4 else if s.any valBad = true then 9 else 0
def sayNo (s : List UInt8) : Int := if (2000 : Int) < s.length then 4 else if s.any sayBad = true then 9 else 0
structure Flt where
  k : List UInt8
  t : List UInt8
  fr : Sl Frm
def Flt.enc (f : Flt) : List Value := [str f.k, str f.t, .slice f.fr.A f.fr.q f.fr.c]
def Flt.val (f : Flt) : Value := .agg f.enc.toArray
structure STag where
  n : List UInt8
  v : List UInt8
def STag.enc (t : STag) : List Value := [str t.n, str t.v]
structure SCrumb where
  at_ : Int
  k : List UInt8
  t : List UInt8
def SCrumb.enc (c : SCrumb) : List Value := [.int .i64 c.at_, str c.k, str c.t]
structure Evt where
  id : List UInt8
  at_ : Int
  lv : Int
  fa : Sl Flt
  ta : Sl STag
  cr : Sl SCrumb
  rel : List UInt8
  us : List UInt8
  wt : Int
def Evt.enc (e : Evt) : List Value := [str e.id, .int .i64 e.at_, .int .i64 e.lv, .slice e.fa.A e.fa.q e.fa.c, .slice e.ta.A e.ta.q e.ta.c, .slice e.cr.A e.cr.q e.cr.c, str e.rel, str e.us, .int .i64 e.wt]
def Evt.val (e : Evt) : Value := .agg e.enc.toArray
structure FltOk (w : World) (f : Flt) : Prop where
  k : f.k.length ≤ 4611686018427387904
  t : f.t.length ≤ 4611686018427387904
  fr : FrmsOk w f.fr
structure FltsOk (w : World) (l : Sl Flt) : Prop where
  ok : l.Ok Flt.enc 3 w
  q : l.q ≤ 4611686018427387904
  n : ∀ f ∈ l.l, FltOk w f
structure TagsOk (w : World) (l : Sl STag) : Prop where
  ok : l.Ok STag.enc 2 w
  q : l.q ≤ 4611686018427387904
  n : ∀ t ∈ l.l, t.n.length ≤ 4611686018427387904 ∧ t.v.length ≤ 4611686018427387904
structure CrumbsOk (w : World) (l : Sl SCrumb) : Prop where
  ok : l.Ok SCrumb.enc 3 w
  q : l.q ≤ 4611686018427387904
  n : ∀ c ∈ l.l, c.k.length ≤ 4611686018427387904 ∧ c.t.length ≤ 4611686018427387904
structure Evt.Ok (w : World) (e : Evt) : Prop where
  fa : FltsOk w e.fa
  ta : TagsOk w e.ta
  cr : CrumbsOk w e.cr
  id : e.id.length ≤ 4611686018427387904
  rel : e.rel.length ≤ 4611686018427387904
  us : e.us.length ≤ 4611686018427387904
section
variable {w w' : World} (hb : Below w.heap.size w w')
include hb
theorem FltOk.below {f : Flt} (h : FltOk w f) : FltOk w' f := ⟨h.k, h.t, h.fr.below hb⟩
theorem FltsOk.below {l : Sl Flt} (h : FltsOk w l) : FltsOk w' l := ⟨h.ok.below hb, h.q, fun f hf => (h.n f hf).below hb⟩
theorem TagsOk.below {l : Sl STag} (h : TagsOk w l) : TagsOk w' l := ⟨h.ok.below hb, h.q, h.n⟩
theorem CrumbsOk.below {l : Sl SCrumb} (h : CrumbsOk w l) : CrumbsOk w' l := ⟨h.ok.below hb, h.q, h.n⟩
theorem Evt.Ok.below {e : Evt} (h : e.Ok w) : e.Ok w' := ⟨h.fa.below hb, h.ta.below hb, h.cr.below hb, h.id, h.rel, h.us⟩
end
/-! ### The codes of their faults -/
def fltNo (f : Flt) : Int :=
  if (200 : Int) < f.k.length then 4 else if wordOk [58] f.k = false then 9 else if f.k = [] then 1 else if sayNo f.t ≠ 0 then sayNo f.t else framesNo f.fr
def fltsNo : List Flt → Int
  | [] => 0
  | f :: r => if fltNo f ≠ 0 then fltNo f else fltsNo r
def faultsNo (l : Sl Flt) : Int := if l.q = 0 then 7 else if (10 : Int) < l.q then 4 else fltsNo l.l
def tagsNo : Option (List UInt8) → List STag → Int
  | _, [] => 0
  | p, t :: r => if nameOk t.n = false then 3 else if (p.any fun s => Op.bytesLess t.n s || decide (t.n = s)) = true then 5 else if valNo t.v ≠ 0 then valNo t.v else tagsNo (some t.n) r
def crumbsNo : Option Int → List SCrumb → Int
  | _, [] => 0
  | p, c :: r => if (decide (c.at_ < 0) || decide (3155759999 < c.at_)) = true then 2 else if (p.any fun n => decide (c.at_ < n)) = true then 5 else if nameOk c.k = false then 3 else if sayNo c.t ≠ 0 then sayNo c.t else crumbsNo (some c.at_) r
def headNo (id : List UInt8) (at_ lv : Int) : Int := if idOk id = false then 1 else if (decide (at_ < 0) || decide (3155759999 < at_) || (decide (lv < 1) || decide (5 < lv))) = true then 2 else 0
def fst (a b : Int) : Int := if a ≠ 0 then a else b
def evNo (e : Evt) : Int := fst (headNo e.id e.at_ e.lv) (fst (faultsNo e.fa) (fst (if (40 : Int) < e.ta.q then 4 else tagsNo none e.ta.l) (fst (if (50 : Int) < e.cr.q then 4 else crumbsNo none e.cr.l)
  (if (!decide (e.rel = []) && !nameOk e.rel) = true then 3 else fst (valNo e.us) (if (decide (e.wt < 1) || decide (1000000 < e.wt)) = true then 2 else 0)))))
theorem fst_t {a b : Int} (h : ¬ a = 0) : fst a b = a := if_pos h
theorem fst_f {a b : Int} (h : a = 0) : fst a b = b := if_neg (by simp [h])
theorem name_t {s : List UInt8} (h : (decide ((s.length : Int) < 1) || decide ((40 : Int) < (s.length : Int)) || decide (((s.getD 0 0).toNat : Int) < 97) || decide ((122 : Int) < ((s.getD 0 0).toNat : Int))) = true) : nameOk s = false := by
  unfold nameOk
  cases s with
  | nil => rfl
  | cons a r =>
    simp only [Bool.or_eq_true, decide_eq_true_eq, List.length_cons] at h
    rw [Bool.eq_false_iff]
    simp only [ne_eq, Bool.and_eq_true, decide_eq_true_eq, List.length_cons]
    omega
theorem name_f {s : List UInt8} (h : (decide ((s.length : Int) < 1) || decide ((40 : Int) < (s.length : Int)) || decide (((s.getD 0 0).toNat : Int) < 97) || decide ((122 : Int) < ((s.getD 0 0).toNat : Int))) = false) : s.length ≤ 40 ∧ decide (Lib.trimS s nameBs = []) = nameOk s := by
  cases s with
  | nil => simp at h
  | cons a r =>
    simp only [Bool.or_eq_false_iff, decide_eq_false_iff_not, List.length_cons] at h
    refine ⟨by simp only [List.length_cons]; omega, ?_⟩
    unfold nameOk
    rw [show (!decide (a :: r = [])) = true from by simp, show decide (((a :: r).length : Int) ≤ 40) = true from decide_eq_true (by simp only [List.length_cons]; omega), show decide ((97 : Int) ≤ (((a :: r).getD 0 0).toNat : Int)) = true from decide_eq_true (by omega),
      show decide ((((a :: r).getD 0 0).toNat : Int) ≤ 122) = true from decide_eq_true (by omega)]
    rfl
def prevN (i : Nat) (b : STag) : Option (List UInt8) := if i = 0 then none else some b.n
def prevA (i : Nat) (b : SCrumb) : Option Int := if i = 0 then none else some b.at_
theorem prevN_any (i : Nat) (b : STag) (f : List UInt8 → Bool) : (prevN i b).any f = (decide ((0 : Int) < (i : Int)) && f b.n) := by
  unfold prevN
  rcases Nat.eq_zero_or_pos i with h | h
  · simp [h]
  · rw [if_neg (by omega)]; simp [h]
theorem prevA_any (i : Nat) (b : SCrumb) (f : Int → Bool) : (prevA i b).any f = (decide ((0 : Int) < (i : Int)) && f b.at_) := by
  unfold prevA
  rcases Nat.eq_zero_or_pos i with h | h
  · simp [h]
  · rw [if_neg (by omega)]; simp [h]
theorem tagsNo_nil (p : Option (List UInt8)) : tagsNo p [] = 0 := by unfold tagsNo; rfl
theorem crumbsNo_nil (p : Option Int) : crumbsNo p [] = 0 := by unfold crumbsNo; rfl
theorem fltNo_say {f : Flt} {k : Int} (h1 : ¬ (200 : Int) < f.k.length) (h2 : wordOk [58] f.k = true) (h3 : ¬ f.k = []) (h : sayNo f.t = k) (hk : ¬ k = 0) : fltNo f = k := by
  rw [fltNo, if_neg h1, if_neg (by rw [h2]; simp), if_neg h3, h, if_pos hk]
theorem fltNo_frs {f : Flt} (h1 : ¬ (200 : Int) < f.k.length) (h2 : wordOk [58] f.k = true) (h3 : ¬ f.k = []) (h : sayNo f.t = 0) : fltNo f = framesNo f.fr := by
  rw [fltNo, if_neg h1, if_neg (by rw [h2]; simp), if_neg h3, h, if_neg (by simp)]
theorem fst_a {a b c : Int} (h : a = c) (hc : c ≠ 0) : fst a b = c := by rw [fst, h, if_pos hc]
theorem fst_b {a b c : Int} (h : a = 0) (hb : b = c) : fst a b = c := by rw [fst, h, hb]; rfl
end Go.Proofs.YtgbldojgbpgjbaaGreatDoor
end
section
namespace Go.Proofs.YtgbldojgbpgjbaaGreatDoor
set_option linter.unusedSimpArgs false
set_option linter.unusedVariables false
set_option maxRecDepth 20000
open Go.RowKit Go.Eng
section
variable {H : Type} {enc : TypeId × Value → H} {w : World}
def IntOk (n : Int) : Prop := (Lit.int .i64 n).wf = true
def ShortS (s : List UInt8) : Prop := s.length ≤ reachBytes
theorem reach_len : reachBytes ≤ 4611686018427387904 := by decide
def strEnc (l : List UInt8) : List Value := [str l]
theorem op_s : Opn enc Tryz.prog w 9 strEnc ShortS (fun l d => d = .lit (.string l)) := opn_str Tryz.underlying9
theorem op_i : Opn enc Tryz.prog w 3 (fun n : Int => [Value.int .i64 n]) IntOk (fun n d => d = .lit (.int .i64 n)) := opn_int Tryz.underlying3
theorem op_b : Opn enc Tryz.prog w 4 (fun b : Bool => [Value.bool b]) (fun _ => True) (fun b d => d = .lit (.bool b)) := opn_bool Tryz.underlying4
def slV {X : Type} (s : Sl X) : List Value := [.slice s.A s.q s.c]
def frmG (f : Frm) : Prop := ShortS f.m ∧ ShortS f.f ∧ ShortS f.fi
theorem op_frm : Opn enc Tryz.prog w 45 Frm.enc frmG (fun _ _ => True) :=
  (opn_struct Tryz.underlying45 co45 (opf_cons op_s rfl co9 (opf_cons op_s rfl co9 (opf_cons op_s rfl co9 (opf_cons op_i rfl co3 (opf_cons op_i rfl co3 (opf_cons op_b rfl co4 opf_nil))))))).map
    (fun p => (⟨p.1, p.2.1, p.2.2.1, p.2.2.2.1, p.2.2.2.2.1, p.2.2.2.2.2.1⟩ : Frm)) (fun _ => rfl) (fun _ h => ⟨h.1, h.2.1, h.2.2.1⟩) (fun _ _ _ => trivial)
theorem op_frms : Opn enc Tryz.prog w 32 slV (FrmsOk w) (fun _ _ => True) :=
  (opn_slice Tryz.underlying32 co45 (by decide) (by rw [bo45]; decide) (fun _ => rfl) op_frm).map (fun s => s) (fun _ => rfl)
    (fun s h => ⟨h.1, Nat.le_trans h.2.1 reach_len, fun f hf => ⟨Nat.le_trans (h.2.2 f hf).1 reach_len, Nat.le_trans (h.2.2 f hf).2.1 reach_len, Nat.le_trans (h.2.2 f hf).2.2 reach_len⟩⟩) (fun _ _ _ => trivial)
theorem op_flt : Opn enc Tryz.prog w 36 Flt.enc (FltOk w) (fun _ _ => True) :=
  (opn_struct Tryz.underlying36 co36 (opf_cons op_s rfl co9 (opf_cons op_s rfl co9 (opf_cons op_frms rfl co32 opf_nil)))).map
    (fun p => (⟨p.1, p.2.1, p.2.2.1⟩ : Flt)) (fun _ => rfl) (fun _ h => ⟨Nat.le_trans h.1 reach_len, Nat.le_trans h.2.1 reach_len, h.2.2.1⟩) (fun _ _ _ => trivial)
theorem op_flts : Opn enc Tryz.prog w 22 slV (FltsOk w) (fun _ _ => True) :=
  (opn_slice Tryz.underlying22 co36 (by decide) (by rw [bo36]; decide) (fun _ => rfl) op_flt).map (fun s => s) (fun _ => rfl)
    (fun s h => ⟨h.1, Nat.le_trans h.2.1 reach_len, h.2.2⟩) (fun _ _ _ => trivial)
theorem op_tag : Opn enc Tryz.prog w 83 STag.enc (fun t => ShortS t.n ∧ ShortS t.v) (fun _ _ => True) :=
  (opn_struct Tryz.underlying83 co83 (opf_cons op_s rfl co9 (opf_cons op_s rfl co9 opf_nil))).map
    (fun p => (⟨p.1, p.2.1⟩ : STag)) (fun _ => rfl) (fun _ h => ⟨h.1, h.2.1⟩) (fun _ _ _ => trivial)
theorem op_tags : Opn enc Tryz.prog w 23 slV (TagsOk w) (fun _ _ => True) :=
  (opn_slice Tryz.underlying23 co83 (by decide) (by rw [bo83]; decide) (fun _ => rfl) op_tag).map (fun s => s) (fun _ => rfl)
    (fun s h => ⟨h.1, Nat.le_trans h.2.1 reach_len, fun t ht => ⟨Nat.le_trans (h.2.2 t ht).1 reach_len, Nat.le_trans (h.2.2 t ht).2 reach_len⟩⟩) (fun _ _ _ => trivial)
theorem op_crumb : Opn enc Tryz.prog w 85 SCrumb.enc (fun c => IntOk c.at_ ∧ ShortS c.k ∧ ShortS c.t) (fun _ _ => True) :=
  (opn_struct Tryz.underlying85 co85 (opf_cons op_i rfl co3 (opf_cons op_s rfl co9 (opf_cons op_s rfl co9 opf_nil)))).map
    (fun p => (⟨p.1, p.2.1, p.2.2.1⟩ : SCrumb)) (fun _ => rfl) (fun _ h => ⟨h.1, h.2.1, h.2.2.1⟩) (fun _ _ _ => trivial)
theorem op_crumbs : Opn enc Tryz.prog w 24 slV (CrumbsOk w) (fun _ _ => True) :=
  (opn_slice Tryz.underlying24 co85 (by decide) (by rw [bo85]; decide) (fun _ => rfl) op_crumb).map (fun s => s) (fun _ => rfl)
    (fun s h => ⟨h.1, Nat.le_trans h.2.1 reach_len, fun t ht => ⟨Nat.le_trans (h.2.2 t ht).2.1 reach_len, Nat.le_trans (h.2.2 t ht).2.2 reach_len⟩⟩) (fun _ _ _ => trivial)
theorem op_evt : Opn enc Tryz.prog w 26 Evt.enc (Evt.Ok w) (fun _ _ => True) :=
  (opn_struct Tryz.underlying26 co26 (opf_cons op_s rfl co9 (opf_cons op_i rfl co3 (opf_cons op_i rfl co3 (opf_cons op_flts rfl co22 (opf_cons op_tags rfl co23 (opf_cons op_crumbs rfl co24 (opf_cons op_s rfl co9 (opf_cons op_s rfl co9 (opf_cons op_i rfl co3 opf_nil)))))))))).map
    (fun p => (⟨p.1, p.2.1, p.2.2.1, p.2.2.2.1, p.2.2.2.2.1, p.2.2.2.2.2.1, p.2.2.2.2.2.2.1, p.2.2.2.2.2.2.2.1, p.2.2.2.2.2.2.2.2.1⟩ : Evt)) (fun _ => rfl)
    (fun p h => by
      obtain ⟨h1, _, _, h4, h5, h6, h7, h8, _⟩ := h
      exact ⟨h4, h5, h6, Nat.le_trans h1 reach_len, Nat.le_trans h7 reach_len, Nat.le_trans h8 reach_len⟩) (fun _ _ _ => trivial)
end
end Go.Proofs.YtgbldojgbpgjbaaGreatDoor
end
section
namespace Go.Proofs.YtgbldojgbpgjbaaGreatDoor
set_option linter.unusedSimpArgs false
set_option linter.unusedVariables false
set_option maxRecDepth 20000
open Go.RowKit Go.Eng
inductive SC where
  | mk (op : Int) (A : Option Addr) (q c : Nat) (kids : List SC) (lo hi : Int) (name text : List UInt8)
def SC.op : SC → Int | .mk op _ _ _ _ _ _ _ _ => op
def SC.ad : SC → Option Addr | .mk _ A _ _ _ _ _ _ _ => A
def SC.q : SC → Nat | .mk _ _ q _ _ _ _ _ _ => q
def SC.c : SC → Nat | .mk _ _ _ c _ _ _ _ _ => c
def SC.lo : SC → Int | .mk _ _ _ _ _ lo _ _ _ => lo
def SC.hi : SC → Int | .mk _ _ _ _ _ _ hi _ _ => hi
def SC.nm : SC → List UInt8 | .mk _ _ _ _ _ _ _ n _ => n
def SC.tx : SC → List UInt8 | .mk _ _ _ _ _ _ _ _ t => t
def SC.enc (x : SC) : List Value := [.int .i64 x.op, .slice x.ad x.q x.c, .int .i64 x.lo, .int .i64 x.hi, str x.nm, str x.tx]
def SC.val (c : SC) : Value := .agg c.enc.toArray
def SC.kids : SC → List SC | .mk _ _ _ _ k _ _ _ _ => k
mutual
def SC.says : SC → PC
  | .mk op _ _ _ kids lo hi n t => .mk op (SC.saysL kids) lo hi n t
def SC.saysL : List SC → List PC
  | [] => []
  | k :: r => k.says :: SC.saysL r
end
theorem saysL_map : ∀ l : List SC, SC.saysL l = l.map SC.says
  | [] => rfl
  | k :: r => by rw [SC.saysL, saysL_map r]; rfl
theorem SC.says_mk {op lo hi : Int} {A : Option Addr} {q c : Nat} {kids : List SC} {n t : List UInt8} : (SC.mk op A q c kids lo hi n t).says = .mk op (kids.map SC.says) lo hi n t := by rw [SC.says, saysL_map]
theorem SC.says_kids (c : SC) : c.says.kids = c.kids.map SC.says := by cases c; rw [SC.says_mk]; rfl
inductive SC.Ok (w : World) : SC → Prop where
  | mk {op lo hi : Int} {A : Option Addr} {q c : Nat} {kids : List SC} {n t : List UInt8} (h : Sl.Ok SC.enc 6 w ⟨A, q, c, kids⟩) (hq : q ≤ 4611686018427387904) (hb : q * 80 ≤ 140737488355328) (hn : n.length ≤ 4611686018427387904) (ht : t.length ≤ 4611686018427387904) (hk : ∀ k ∈ kids, SC.Ok w k) : SC.Ok w (.mk op A q c kids lo hi n t)
/-- how deep it is -/
abbrev SC.dep (c : SC) : Nat := depP c.says
theorem SC.dep_kid {c k : SC} (hk : k ∈ c.kids) : k.dep < c.dep := depP_kid (by rw [SC.says_kids]; exact List.mem_map_of_mem hk)
theorem SC.ind {Q : SC → Prop} (h : ∀ c, (∀ k ∈ c.kids, Q k) → Q c) (c : SC) : Q c := by
  have key : ∀ (n : Nat) (c : SC), c.dep ≤ n → Q c := by
    intro n
    induction n with
    | zero => intro c hc; cases c; simp [SC.dep, SC.says, depP] at hc
    | succ n ih => intro c hc; exact h c fun k hk => ih k (by have := SC.dep_kid hk; omega)
  exact key _ c (Nat.le_refl _)
theorem SC.Ok.lift {w w' : World} {c : SC} (hb : Below w.heap.size w w') : c.Ok w → c.Ok w' := by
  refine SC.ind (Q := fun c => c.Ok w → c.Ok w') (fun c ih h => ?_) c
  cases h with
  | mk h1 h2 h6 h3 h4 h5 => exact .mk (h1.below hb) h2 h6 h3 h4 fun k hk => ih k hk (h5 k hk)
section
variable {H : Type} {enc : TypeId × Value → H} {w : World}
end
end Go.Proofs.YtgbldojgbpgjbaaGreatDoor
end
section
namespace Go.Proofs.YtgbldojgbpgjbaaGreatDoor
set_option linter.unusedSimpArgs false
set_option linter.unusedVariables false
set_option maxRecDepth 20000
open Go.RowKit Go.Eng
theorem TrimName_any (s : List UInt8) (hs : s.length ≤ 1000) (w : World) :
    Calls Tryz.prog 60 #[str s, str nameBs] w fun e w' => e = .returned (str (Lib.trimS s nameBs)) ∧ Below w.heap.size w w' :=
  Any.strings_Trim_laid Tryz.lays160 (by kernel_rfl) ⟨s.toArray⟩ ⟨nameBs.toArray⟩ w (by rw [Lib.size_eq]; simp; omega) (by decide) (ascii_of_all (by decide))
theorem isDigest_any (s : List UInt8) (w : World) :
    Calls Tryz.prog 61 #[str s] w fun e w' => e = .returned (.bool (idOk s)) ∧ Below w.heap.size w w' := by
  refine enter_args (args := [str s]) (F := _) Tryz.func61 rfl Tryz.ntmps61 rfl rfl ?_
  intro Rb hRb hRn
  refine tx ?_
  refine sr 1 ?_
  refine sgx ?_
  refine sr 1 ?_
  refine s1 (y_len_str rfl rfl Tryz.underlying9) ?_
  refine sr 2 ?_
  refine sg rfl (y_move rfl rfl) ?_
  refine sg rfl (y_call rfl rfl rfl cf60 (fun hg w _ => TrimHex_any s (by simp only [Bool.true_and, Bool.and_eq_true, beq_iff_eq, decide_eq_true_eq, decide_eq_false_iff_not, Int.not_lt, Int.not_le] at hg; omega) w)) ?_
  refine sg rfl (y_bin rfl rfl rfl (fun _ => b_eqls)) ?_
  refine s1 (y_and rfl rfl rfl) ?_
  refine sr 1 ?_
  refine sgo ?_
  refine tr1 hRb fun w hM => ?_
  exact ⟨rfl, hM.below⟩
theorem eoutside_any (n lo hi : Int) (w : World) :
    Calls Tryz.prog 26 #[.int .i64 n, .int .i64 lo, .int .i64 hi] w fun e w' => e = .returned (.bool (decide (n < lo) || decide (hi < n))) ∧ Below w.heap.size w w' := by
  refine enter_args (args := [.int .i64 n, .int .i64 lo, .int .i64 hi]) (F := _) Tryz.func26 rfl Tryz.ntmps26 rfl rfl ?_
  intro Rb hRb hRn
  refine tx ?_
  refine sr 1 ?_
  refine sgx ?_
  refine sr 4 ?_
  refine sg rfl (y_move rfl rfl) ?_
  refine sg rfl (y_move rfl rfl) ?_
  refine sg rfl (y_bin rfl rfl rfl (fun _ => b_gtr)) ?_
  refine s1 (y_or rfl rfl rfl) ?_
  refine sr 1 ?_
  refine sgo ?_
  refine tr1 hRb fun w hM => ?_
  exact ⟨rfl, hM.below⟩
theorem IsName_any (s : List UInt8) (w : World) :
    Calls Tryz.prog 24 #[str s] w fun e w' => e = .returned (.bool (nameOk s)) ∧ Below w.heap.size w w' := by
  refine enter_args (args := [str s]) (F := _) Tryz.func24 rfl Tryz.ntmps24 rfl rfl ?_
  intro Rb hRb hRn
  refine tx ?_
  refine sr 1 ?_
  refine sgs ?_
  refine tx ?_
  refine sr 1 ?_
  refine s1 (y_len_str rfl rfl Tryz.underlying9) ?_
  refine sr 2 ?_
  refine sg rfl (y_move rfl rfl) ?_
  refine sg rfl (y_len_str rfl rfl Tryz.underlying9) ?_
  refine sg rfl (y_bin rfl rfl rfl (fun _ => b_gtr)) ?_
  refine s1 (y_or rfl rfl rfl) ?_
  refine sr 1 ?_
  refine sg rfl (y_move rfl rfl) ?_
  refine sg rfl (y_index_str (j := 0) rfl rfl rfl Tryz.underlying9 (fun hg => List.length_pos_iff.2 (fun e => by subst e; simp at hg))) ?_
  refine sg rfl (y_bin rfl rfl rfl (fun _ => b_lss)) ?_
  refine s1 (y_or rfl rfl rfl) ?_
  refine sr 1 ?_
  refine sg rfl (y_move rfl rfl) ?_
  refine sg rfl (y_index_str (j := 0) rfl rfl rfl Tryz.underlying9 (fun hg => List.length_pos_iff.2 (fun e => by subst e; simp at hg))) ?_
  refine sg rfl (y_bin rfl rfl rfl (fun _ => b_gtr)) ?_
  refine s1 (y_or rfl rfl rfl) ?_
  refine sgo ?_
  refine T_cond rfl ?_ ?_ <;> intro h20
  · skip
    refine tx ?_
    refine sr 1 ?_
    refine sgo ?_
    refine tr1 hRb fun w hM => ?_
    exact ⟨by rw [name_t h20], hM.below⟩
  have hn := name_f h20
  have hl := hn.1
  refine kgx ?_
  refine sr 1 ?_
  refine s1 (y_call rfl rfl rfl cf60 (fun _ w _ => TrimName_any s (by omega) w)) ?_
  refine s1 (y_bin rfl rfl rfl (fun _ => b_eqls)) ?_
  refine sr 1 ?_
  refine sgo ?_
  refine tr1 hRb fun w hM => ?_
  exact ⟨by rw [← hn.2], hM.below⟩
theorem checkValue_any (s : List UInt8) (hs : s.length ≤ 4611686018427387904) (w : World) :
    Calls Tryz.prog 25 #[str s] w fun e w' => e = .returned (.int .i64 (valNo s)) ∧ Below w.heap.size w w' := by
  refine enter_args (args := [str s]) (F := _) Tryz.func25 rfl Tryz.ntmps25 rfl rfl ?_
  intro Rb hRb hRn
  refine tx ?_
  refine sr 1 ?_
  refine sgs ?_
  refine tx ?_
  refine sr 1 ?_
  refine s1 (y_len_str rfl rfl Tryz.underlying9) ?_
  refine sr 1 ?_
  refine sgo ?_
  refine T_cond rfl ?_ ?_ <;> intro h6
  · try simp only [nrm] at h6
    refine tx ?_
    refine sr 1 ?_
    refine sgo ?_
    refine tr1 hRb fun w hM => ?_
    exact ⟨by rw [valNo, if_pos (by omega)], hM.below⟩
  try simp only [nrm] at h6
  refine kgs ?_
  refine tx ?_
  refine sr 1 ?_
  refine s1 (y_len_str rfl rfl Tryz.underlying9) ?_
  refine sr 1 ?_
  refine sgo ?_
  refine T_block ?_
  refine lK1 (kf := [(2, 3), (9, 22)]) (kl := [(2, 3), (9, 22)]) (fun (i : Nat) => [(9, true, .int .i64 (i : Int))]) (fun (i : Nat) => []) (fun (i : Nat) => i ≤ s.length ∧ s.any valBad = (s.drop i).any valBad) (fun (i : Nat) => s.length - i) 0 ?_ ?_ ?_ ?_
  · exact ⟨by omega, rfl⟩
  · exact ⟨rfl, trivial⟩
  · exact trivial
  rintro i ⟨hp1, hp2⟩
  refine tx ?_
  refine sr 1 ?_
  refine sgs ?_
  refine T_cond rfl ?_ ?_ <;> intro h10
  · try simp only [nrm] at h10
    refine kgs ?_
    refine T_block ?_
    refine tx ?_
    refine sr 2 ?_
    refine sgx ?_
    refine sr 2 ?_
    refine s1 (y_index_str rfl rfl rfl Tryz.underlying9 (fun _ => by omega)) ?_
    refine sr 2 ?_
    refine sg rfl (y_move rfl rfl) ?_
    refine sg rfl (y_move rfl rfl) ?_
    refine sg rfl (y_index_str rfl rfl rfl Tryz.underlying9 (fun hg => by simp only [Bool.true_and, Bool.and_eq_true, beq_iff_eq, decide_eq_true_eq, decide_eq_false_iff_not, Int.not_lt, Int.not_le] at hg; omega)) ?_
    refine sg rfl (y_bin rfl rfl rfl (fun _ => b_gtr)) ?_
    refine s1 (y_as (v' := .bool (valBad (s.getD i 0))) (by exact rfl) (y_or rfl rfl rfl)) ?_
    refine sgo ?_
    refine T_cond rfl ?_ ?_ <;> intro h21
    · skip
      refine tx ?_
      refine sr 1 ?_
      refine sgo ?_
      refine tr1 hRb fun w hM => ?_
      exact ⟨by rw [valNo, if_neg (by omega), if_pos (by rw [hp2, drop_str (by omega), any_t h21])], hM.below⟩
    refine kgr ?_
    refine s1 (y_bin rfl rfl rfl (fun hg => b_add (by omega))) ?_
    refine sr 1 ?_
    refine S_nil (nK1 (kf := [(2, 3), (9, 22)]) (kl := [(2, 3), (9, 22)]) (i + 1) ?_ ?_ ?_ ?_)
    · omega
    · exact ⟨by omega, by rw [hp2, drop_str (by omega), any_f h21]⟩
    · exact ⟨rfl, trivial⟩
    · exact trivial
  try simp only [nrm] at h10
  refine egx ?_
  refine sr 1 ?_
  refine sgo ?_
  refine tr1 hRb fun w hM => ?_
  exact ⟨by rw [valNo, if_neg (by omega), if_neg (by rw [hp2, List.drop_eq_nil_of_le (by omega)]; simp)], hM.below⟩
theorem checkSay_any (s : List UInt8) (hs : s.length ≤ 4611686018427387904) (w : World) :
    Calls Tryz.prog 63 #[str s] w fun e w' => e = .returned (.int .i64 (sayNo s)) ∧ Below w.heap.size w w' := by
  refine enter_args (args := [str s]) (F := _) Tryz.func63 rfl Tryz.ntmps63 rfl rfl ?_
  intro Rb hRb hRn
  refine tx ?_
  refine sr 1 ?_
  refine sgs ?_
  refine tx ?_
  refine sr 1 ?_
  refine s1 (y_len_str rfl rfl Tryz.underlying9) ?_
  refine sr 1 ?_
  refine sgo ?_
  refine T_cond rfl ?_ ?_ <;> intro h6
  · try simp only [nrm] at h6
    refine tx ?_
    refine sr 1 ?_
    refine sgo ?_
    refine tr1 hRb fun w hM => ?_
    exact ⟨by rw [sayNo, if_pos (by omega)], hM.below⟩
  try simp only [nrm] at h6
  refine kgs ?_
  refine tx ?_
  refine sr 1 ?_
  refine s1 (y_len_str rfl rfl Tryz.underlying9) ?_
  refine sr 1 ?_
  refine sgo ?_
  refine T_block ?_
  refine lK1 (kf := [(2, 3), (9, 22)]) (kl := [(2, 3), (9, 22)]) (fun (i : Nat) => [(9, true, .int .i64 (i : Int))]) (fun (i : Nat) => []) (fun (i : Nat) => i ≤ s.length ∧ s.any sayBad = (s.drop i).any sayBad) (fun (i : Nat) => s.length - i) 0 ?_ ?_ ?_ ?_
  · exact ⟨by omega, rfl⟩
  · exact ⟨rfl, trivial⟩
  · exact trivial
  rintro i ⟨hp1, hp2⟩
  refine tx ?_
  refine sr 1 ?_
  refine sgs ?_
  refine T_cond rfl ?_ ?_ <;> intro h10
  · try simp only [nrm] at h10
    refine kgs ?_
    refine T_block ?_
    refine tx ?_
    refine sr 2 ?_
    refine sgx ?_
    refine sr 2 ?_
    refine s1 (y_index_str rfl rfl rfl Tryz.underlying9 (fun _ => by omega)) ?_
    refine sr 2 ?_
    refine sg rfl (y_move rfl rfl) ?_
    refine sg rfl (y_move rfl rfl) ?_
    refine sg rfl (y_index_str rfl rfl rfl Tryz.underlying9 (fun hg => by simp only [Bool.true_and, Bool.and_eq_true, beq_iff_eq, decide_eq_true_eq, decide_eq_false_iff_not, Int.not_lt, Int.not_le] at hg; omega)) ?_
    refine sg rfl (y_bin rfl rfl rfl (fun _ => b_eql)) ?_
    refine s1 (y_as (v' := .bool (sayBad (s.getD i 0))) (by exact rfl) (y_or rfl rfl rfl)) ?_
    refine sgo ?_
    refine T_cond rfl ?_ ?_ <;> intro h21
    · skip
      refine tx ?_
      refine sr 1 ?_
      refine sgo ?_
      refine tr1 hRb fun w hM => ?_
      exact ⟨by rw [sayNo, if_neg (by omega), if_pos (by rw [hp2, drop_str (by omega), any_t h21])], hM.below⟩
    refine kgr ?_
    refine s1 (y_bin rfl rfl rfl (fun hg => b_add (by omega))) ?_
    refine sr 1 ?_
    refine S_nil (nK1 (kf := [(2, 3), (9, 22)]) (kl := [(2, 3), (9, 22)]) (i + 1) ?_ ?_ ?_ ?_)
    · omega
    · exact ⟨by omega, by rw [hp2, drop_str (by omega), any_f h21]⟩
    · exact ⟨rfl, trivial⟩
    · exact trivial
  try simp only [nrm] at h10
  refine egx ?_
  refine sr 1 ?_
  refine sgo ?_
  refine tr1 hRb fun w hM => ?_
  exact ⟨by rw [sayNo, if_neg (by omega), if_neg (by rw [hp2, List.drop_eq_nil_of_le (by omega)]; simp)], hM.below⟩
theorem CheckFault_any (f : Flt) (w : World) (hf : FltOk w f) :
    Calls Tryz.prog 62 #[f.val] w fun e w' => e = .returned (.int .i64 (fltNo f)) ∧ Below w.heap.size w w' := by
  have hk := hf.k
  have htl := hf.t
  refine enter_args (args := [.agg #[str f.k, str f.t, .slice f.fr.A f.fr.q f.fr.c]]) (F := _) Tryz.func62 rfl Tryz.ntmps62 rfl rfl ?_
  intro Rb hRb hRn
  refine tx ?_
  refine S_box 1 1 rfl rfl rfl rfl rfl ?_
  intro b1
  refine sr 1 ?_
  refine sgs ?_
  refine T_block ?_
  refine tx ?_
  refine s1 (yF fa36_0) ?_
  refine s1 (yL 1 Tryz.underlying9) ?_
  refine s1 (y_len_str rfl rfl Tryz.underlying9) ?_
  refine sr 2 ?_
  refine sgo ?_
  refine T_cond rfl ?_ ?_ <;> intro h4
  · try simp only [nrm] at h4
    refine tx ?_
    refine sr 1 ?_
    refine sgo ?_
    refine tr1 hRb fun w hM => ?_
    exact ⟨by rw [fltNo, if_pos (by omega)], hM.below⟩
  try simp only [nrm] at h4
  refine tx ?_
  refine s1 (yF fa36_0) ?_
  refine s1 (yL 1 Tryz.underlying9) ?_
  refine s1 (y_call rfl rfl rfl cf148 (fun hg w _ => isWord_any _ _ (by first | omega | (have := hsz; omega)) w)) ?_
  refine sr 2 ?_
  refine sgo ?_
  refine T_cond rfl ?_ ?_ <;> intro h9
  · try simp only [nrm] at h9
    refine tx ?_
    refine sr 1 ?_
    refine sgo ?_
    refine tr1 hRb fun w hM => ?_
    exact ⟨by rw [fltNo, if_neg (by omega), if_pos h9], hM.below⟩
  try simp only [nrm] at h9
  refine tx ?_
  refine s1 (yF fa36_0) ?_
  refine s1 (yL 1 Tryz.underlying9) ?_
  refine s1 (y_bin rfl rfl rfl (fun _ => b_eqls)) ?_
  refine sr 1 ?_
  refine sgo ?_
  refine T_cond rfl ?_ ?_ <;> intro h14
  · try simp only [nrm] at h14
    refine tx ?_
    refine sr 1 ?_
    refine sgo ?_
    refine tr1 hRb fun w hM => ?_
    exact ⟨by rw [fltNo, if_neg (by omega), if_neg (by rw [h9]; simp), if_pos h14], hM.below⟩
  try simp only [nrm] at h14
  refine tx ?_
  refine s1 (yF fa36_1) ?_
  refine s1 (yL 1 Tryz.underlying9) ?_
  refine s1 (y_len_str rfl rfl Tryz.underlying9) ?_
  refine sr 2 ?_
  refine sgo ?_
  refine T_cond rfl ?_ ?_ <;> intro h18
  · try simp only [nrm] at h18
    refine tx ?_
    refine sr 1 ?_
    refine sgo ?_
    refine tr1 hRb fun w hM => ?_
    exact ⟨by rw [fltNo_say (by omega) h9 h14 (k := 4) (by rw [sayNo, if_pos (by omega)]) (by decide)], hM.below⟩
  try simp only [nrm] at h18
  refine kgs ?_
  refine tx ?_
  refine s1 (yF fa36_1) ?_
  refine s1 (yL 1 Tryz.underlying9) ?_
  refine s1 (y_len_str rfl rfl Tryz.underlying9) ?_
  refine sr 1 ?_
  refine sgo ?_
  refine T_block ?_
  refine lK1 (kf := [(2, 3), (26, 41)]) (kl := [(2, 3), (26, 41)]) (fun (i : Nat) => [(26, true, .int .i64 (i : Int))]) (fun (i : Nat) => []) (fun (i : Nat) => i ≤ f.t.length ∧ f.t.any sayBad = (f.t.drop i).any sayBad) (fun (i : Nat) => f.t.length - i) 0 ?_ ?_ ?_ ?_
  · exact ⟨by omega, rfl⟩
  · exact ⟨rfl, trivial⟩
  · exact trivial
  rintro i ⟨hp1, hp2⟩
  refine tx ?_
  refine sr 1 ?_
  refine sgs ?_
  refine T_cond rfl ?_ ?_ <;> intro h27
  · try simp only [nrm] at h27
    refine kgs ?_
    refine T_block ?_
    refine tx ?_
    refine sr 2 ?_
    refine sgx ?_
    refine s1 (yF fa36_1) ?_
    refine s1 (yL 1 Tryz.underlying9) ?_
    refine sr 1 ?_
    refine s1 (y_index_str rfl rfl rfl Tryz.underlying9 (fun _ => by omega)) ?_
    refine sr 2 ?_
    refine sg rfl (yF fa36_1) ?_
    refine sg rfl (yL 1 Tryz.underlying9) ?_
    refine sg rfl (y_move rfl rfl) ?_
    refine sg rfl (y_index_str rfl rfl rfl Tryz.underlying9 (fun hg => by simp only [Bool.true_and, Bool.and_eq_true, beq_iff_eq, decide_eq_true_eq, decide_eq_false_iff_not, Int.not_lt, Int.not_le] at hg; omega)) ?_
    refine sg rfl (y_bin rfl rfl rfl (fun _ => b_eql)) ?_
    refine s1 (y_as (v' := .bool (sayBad (f.t.getD i 0))) (by exact rfl) (y_or rfl rfl rfl)) ?_
    refine sgo ?_
    refine T_cond rfl ?_ ?_ <;> intro h40
    · skip
      refine tx ?_
      refine sr 1 ?_
      refine sgo ?_
      refine tr1 hRb fun w hM => ?_
      exact ⟨by rw [fltNo_say (by omega) h9 h14 (k := 9) (by rw [sayNo, if_neg (by omega), if_pos (by rw [hp2, drop_str (by omega), any_t h40])]) (by decide)], hM.below⟩
    refine kgr ?_
    refine s1 (y_bin rfl rfl rfl (fun hg => b_add (by omega))) ?_
    refine sr 1 ?_
    refine S_nil (nK1 (kf := [(2, 3), (26, 41)]) (kl := [(2, 3), (26, 41)]) (i + 1) ?_ ?_ ?_ ?_)
    · omega
    · exact ⟨by omega, by rw [hp2, drop_str (by omega), any_f h40]⟩
    · exact ⟨rfl, trivial⟩
    · exact trivial
  try simp only [nrm] at h27
  refine egx ?_
  refine s1 (yF fa36_2) ?_
  refine s1 (yL 1 Tryz.underlying32) ?_
  refine s1 (y_call rfl rfl rfl cf149 (fun _ w hM => checkFrames_any _ w (hf.fr.below hM.below))) ?_
  refine sr 1 ?_
  refine sgo ?_
  refine tr1 hRb fun w hM => ?_
  exact ⟨by rw [fltNo_frs (by omega) h9 h14 (by rw [sayNo, if_neg (by omega), if_neg (by rw [hp2, List.drop_eq_nil_of_le (by omega)]; simp)])], hM.below⟩
theorem sCheck_any (l : Sl Flt) (w : World) (hl : FltsOk w l) :
    Calls Tryz.prog 21 #[.slice l.A l.q l.c] w fun e w' => e = .returned (.int .i64 (faultsNo l)) ∧ Below w.heap.size w w' := by
  have ht := hl.ok.t
  have hq := hl.q
  refine enter_args (args := [.slice l.A l.q l.c]) (F := _) Tryz.func21 rfl Tryz.ntmps21 rfl rfl ?_
  intro Rb hRb hRn
  refine tx ?_
  refine sr 1 ?_
  refine sgs ?_
  refine T_block ?_
  refine tx ?_
  refine sr 1 ?_
  refine s1 (y_len_slice rfl rfl Tryz.underlying22) ?_
  refine sr 2 ?_
  refine sgo ?_
  refine T_cond rfl ?_ ?_ <;> intro h6
  · try simp only [nrm] at h6
    refine tx ?_
    refine sr 1 ?_
    refine sgo ?_
    refine tr1 hRb fun w hM => ?_
    exact ⟨by rw [faultsNo, if_pos (by omega)], hM.below⟩
  try simp only [nrm] at h6
  refine tx ?_
  refine sr 1 ?_
  refine s1 (y_len_slice rfl rfl Tryz.underlying22) ?_
  refine sr 2 ?_
  refine sgo ?_
  refine T_cond rfl ?_ ?_ <;> intro h10
  · try simp only [nrm] at h10
    refine tx ?_
    refine sr 1 ?_
    refine sgo ?_
    refine tr1 hRb fun w hM => ?_
    exact ⟨by rw [faultsNo, if_neg (by omega), if_pos (by omega)], hM.below⟩
  try simp only [nrm] at h10
  refine kgs ?_
  refine tx ?_
  refine sr 1 ?_
  refine s1 (y_len_slice rfl rfl Tryz.underlying22) ?_
  refine sr 1 ?_
  refine sgo ?_
  refine T_block ?_
  refine lK1 (kf := [(2, 2), (4, 5), (16, 25)]) (kl := [(2, 2), (4, 5), (16, 25)]) (fun (i : Nat) => [(16, true, .int .i64 (i : Int))]) (fun (i : Nat) => []) (fun (i : Nat) => i ≤ l.q ∧ fltsNo l.l = fltsNo (l.l.drop i)) (fun (i : Nat) => l.q - i) 0 ?_ ?_ ?_ ?_
  · exact ⟨by omega, rfl⟩
  · exact ⟨rfl, trivial⟩
  · exact trivial
  rintro i ⟨hp1, hp2⟩
  refine tx ?_
  refine sr 1 ?_
  refine sgs ?_
  refine T_cond rfl ?_ ?_ <;> intro h17
  · try simp only [nrm] at h17
    obtain ⟨x, hx1, hx2⟩ := ht.at (i := i) (by omega)
    refine kgs ?_
    refine T_block ?_
    refine tx ?_
    refine s1 (y_indexAddr rfl rfl rfl Tryz.underlying22 sz36 (fun hg => ht.isSome (by omega)) (fun _ => by omega)) ?_
    refine s1 (y_loadT rfl rfl ht (fun _ => rfl) (fun _ => hx1) Tryz.underlying36 rfl sz36) ?_
    refine S_alloc 4 4 rfl rfl rfl rfl z36 ?_
    intro b4
    refine S_store 4 rfl rfl rfl rfl rfl rfl sz36 rfl rfl ?_
    refine sgx ?_
    refine s1 (yA 4 rfl Tryz.underlying36 sz36) ?_
    refine s1 (y_call rfl rfl rfl cf62 (fun _ w hM => CheckFault_any x w ((hl.n x (mem_at hx1)).below hM.below))) ?_
    refine sr 1 ?_
    refine sgx ?_
    refine sr 2 ?_
    refine sgo ?_
    refine T_cond rfl ?_ ?_ <;> intro h23
    · try simp only [nrm] at h23
      refine tx ?_
      refine sr 2 ?_
      refine sgo ?_
      refine tr1 hRb fun w hM => ?_
      exact ⟨by rw [faultsNo, if_neg (by omega), if_neg (by omega), hp2, hx2, fltsNo, if_pos h23], hM.below⟩
    try simp only [nrm] at h23
    refine kgr ?_
    refine s1 (y_bin rfl rfl rfl (fun hg => b_add (by omega))) ?_
    refine sr 1 ?_
    refine S_nil (nK1 (kf := [(2, 2), (4, 5), (16, 25)]) (kl := [(2, 2), (4, 5), (16, 25)]) (i + 1) ?_ ?_ ?_ ?_)
    · omega
    · exact ⟨by omega, by rw [hp2, hx2, fltsNo, if_neg (by simpa using h23)]⟩
    · exact ⟨rfl, trivial⟩
    · exact trivial
  try simp only [nrm] at h17
  refine egx ?_
  refine sr 1 ?_
  refine sgo ?_
  refine tr1 hRb fun w hM => ?_
  exact ⟨by rw [faultsNo, if_neg (by omega), if_neg (by omega), hp2, ht.end (by omega)]; rfl, hM.below⟩
theorem checkTags_any (l : Sl STag) (w : World) (hl : TagsOk w l) :
    Calls Tryz.prog 22 #[.slice l.A l.q l.c] w fun e w' => e = .returned (.int .i64 (if (40 : Int) < l.q then 4 else tagsNo none l.l)) ∧ Below w.heap.size w w' := by
  have ht := hl.ok.t
  have hq := hl.q
  refine enter_args (args := [.slice l.A l.q l.c]) (F := _) Tryz.func22 rfl Tryz.ntmps22 rfl rfl ?_
  intro Rb hRb hRn
  refine tx ?_
  refine sr 1 ?_
  refine sgs ?_
  refine tx ?_
  refine sr 1 ?_
  refine s1 (y_len_slice rfl rfl Tryz.underlying23) ?_
  refine sr 1 ?_
  refine sgo ?_
  refine T_cond rfl ?_ ?_ <;> intro h8
  · try simp only [nrm] at h8
    refine tx ?_
    refine sr 1 ?_
    refine sgo ?_
    refine tr1 hRb fun w hM => ?_
    exact ⟨by rw [if_pos (by omega)], hM.below⟩
  try simp only [nrm] at h8
  refine kgs ?_
  refine tx ?_
  refine sr 1 ?_
  refine s1 (y_len_slice rfl rfl Tryz.underlying23) ?_
  refine sr 1 ?_
  refine sgo ?_
  refine T_block ?_
  refine lK2 (kf := [(2, 5), (11, 39)]) (kl := [(2, 5), (11, 39)]) (fun (i : Nat) (b : STag) => [(11, true, .int .i64 (i : Int))]) (fun (i : Nat) (b : STag) => []) (fun (i : Nat) (b : STag) => i ≤ l.q ∧ tagsNo none l.l = tagsNo (prevN i b) (l.l.drop i) ∧ (0 < i → l.l[i - 1]? = some b)) (fun (i : Nat) (b : STag) => l.q - i) 0 ⟨[], []⟩ ?_ ?_ ?_ ?_
  · exact ⟨by omega, rfl, by omega⟩
  · exact ⟨rfl, trivial⟩
  · exact trivial
  rintro i b ⟨hp1, hp2, hp3⟩
  refine tx ?_
  refine sr 1 ?_
  refine sgs ?_
  refine T_cond rfl ?_ ?_ <;> intro h12
  · try simp only [nrm] at h12
    obtain ⟨x, hx1, hx2⟩ := ht.at (i := i) (by omega)
    have hn := hl.n x (mem_at hx1)
    have hn2 := hn.2
    refine kgs ?_
    refine T_block ?_
    refine tx ?_
    refine sr 1 ?_
    refine s1 (y_indexAddr rfl rfl rfl Tryz.underlying23 sz83 (fun hg => ht.isSome (by omega)) (fun _ => by omega)) ?_
    refine s1 (y_loadT rfl rfl ht (fun _ => rfl) (fun _ => hx1) Tryz.underlying83 rfl sz83) ?_
    refine S_alloc 4 4 rfl rfl rfl rfl z83 ?_
    intro b4
    refine sr 1 ?_
    refine S_store 4 rfl rfl rfl rfl rfl rfl sz83 rfl rfl ?_
    refine sgs ?_
    refine tx ?_
    refine s1 (yF fa83_0) ?_
    refine s1 (yL 4 Tryz.underlying9) ?_
    refine s1 (y_call rfl rfl rfl cf24 (fun _ w _ => IsName_any _ w)) ?_
    refine sr 1 ?_
    refine sgo ?_
    refine T_cond rfl ?_ ?_ <;> intro h19
    · try simp only [nrm] at h19
      refine tx ?_
      refine sr 1 ?_
      refine sgo ?_
      refine tr1 hRb fun w hM => ?_
      exact ⟨by rw [if_neg (by omega), hp2, hx2, tagsNo, if_pos h19], hM.below⟩
    try simp only [nrm] at h19
    refine kgs ?_
    refine T_seq ?_
    refine T_draws (by kernel_rfl) (by kernel_rfl) ?_
    refine d1 (y_move rfl rfl) ?_
    refine d1 (y_bin rfl rfl rfl (fun _ => b_gtr)) ?_
    refine d1 (y_move rfl rfl) ?_
    refine dg rfl (yF fa83_0) ?_
    refine dg rfl (yL 4 Tryz.underlying9) ?_
    refine dg rfl (y_move rfl rfl) ?_
    refine dg rfl (y_move rfl rfl) ?_
    refine dg rfl (y_bin rfl rfl rfl (fun hg => b_subv (((i - 1 : Nat) : Int)) (by simp only [Bool.true_and, Bool.and_eq_true, beq_iff_eq, decide_eq_true_eq, decide_eq_false_iff_not, Int.not_lt, Int.not_le] at hg; omega) (by simp only [Bool.true_and, Bool.and_eq_true, beq_iff_eq, decide_eq_true_eq, decide_eq_false_iff_not, Int.not_lt, Int.not_le] at hg; omega))) ?_
    refine dg rfl (y_indexAddr rfl rfl rfl Tryz.underlying23 sz83 (fun hg => ht.isSome (by simp only [Bool.true_and, Bool.and_eq_true, beq_iff_eq, decide_eq_true_eq, decide_eq_false_iff_not, Int.not_lt, Int.not_le] at hg; omega)) (fun hg => by simp only [Bool.true_and, Bool.and_eq_true, beq_iff_eq, decide_eq_true_eq, decide_eq_false_iff_not, Int.not_lt, Int.not_le] at hg; omega)) ?_
    refine dg rfl (y_fieldEl rfl rfl ht.rd (fun hg => by simp only [Bool.true_and, Bool.and_eq_true, beq_iff_eq, decide_eq_true_eq, decide_eq_false_iff_not, Int.not_lt, Int.not_le] at hg; omega) fa83_0) ?_
    refine dg rfl (y_load_fT rfl rfl ht (fun _ => rfl) (fun hg => hp3 (by simp only [Bool.true_and, Bool.and_eq_true, beq_iff_eq, decide_eq_true_eq, decide_eq_false_iff_not, Int.not_lt, Int.not_le] at hg; omega)) rfl Tryz.underlying9 rfl) ?_
    refine dg rfl (y_bin rfl rfl rfl (fun _ => b_leqs)) ?_
    refine d1 (y_as (v' := .bool ((prevN i b).any fun s => Op.bytesLess x.n s || decide (x.n = s))) (by rw [prevN_any]) (y_and rfl rfl rfl)) ?_
    refine dgo ?_
    refine T_cond rfl ?_ ?_ <;> intro h32
    · skip
      refine tx ?_
      refine sr 1 ?_
      refine sgo ?_
      refine tr1 hRb fun w hM => ?_
      exact ⟨by rw [if_neg (by omega), hp2, hx2, tagsNo, if_neg (by rw [h19]; simp), if_t h32], hM.below⟩
    refine kgx ?_
    refine s1 (yF fa83_1) ?_
    refine s1 (yL 4 Tryz.underlying9) ?_
    refine s1 (y_call rfl rfl rfl cf25 (fun _ w _ => checkValue_any _ (by first | omega | (simp; done) | (simp; omega) | (simp only; omega)) w)) ?_
    refine sr 1 ?_
    refine sgx ?_
    refine sr 2 ?_
    refine sgo ?_
    refine T_cond rfl ?_ ?_ <;> intro h37
    · try simp only [nrm] at h37
      refine tx ?_
      refine sr 2 ?_
      refine sgo ?_
      refine tr1 hRb fun w hM => ?_
      exact ⟨by rw [if_neg (by omega), hp2, hx2, tagsNo, if_neg (by rw [h19]; simp), if_f h32, if_pos h37], hM.below⟩
    try simp only [nrm] at h37
    refine kgr ?_
    refine s1 (y_bin rfl rfl rfl (fun hg => b_add (by omega))) ?_
    refine sr 1 ?_
    refine S_nil (nK2 (kf := [(2, 5), (11, 39)]) (kl := [(2, 5), (11, 39)]) (i + 1) x ?_ ?_ ?_ ?_)
    · omega
    · exact ⟨by omega, by rw [hp2, hx2, tagsNo, if_neg (by rw [h19]; simp), if_f h32, if_neg (by simpa using h37)]; rfl, fun _ => hx1⟩
    · exact ⟨rfl, trivial⟩
    · exact trivial
  try simp only [nrm] at h12
  refine egx ?_
  refine sr 1 ?_
  refine sgo ?_
  refine tr1 hRb fun w hM => ?_
  exact ⟨by rw [if_neg (by omega), hp2, ht.end (by omega), tagsNo_nil], hM.below⟩
theorem checkCrumbs_any (l : Sl SCrumb) (w : World) (hl : CrumbsOk w l) :
    Calls Tryz.prog 23 #[.slice l.A l.q l.c] w fun e w' => e = .returned (.int .i64 (if (50 : Int) < l.q then 4 else crumbsNo none l.l)) ∧ Below w.heap.size w w' := by
  have ht := hl.ok.t
  have hq := hl.q
  refine enter_args (args := [.slice l.A l.q l.c]) (F := _) Tryz.func23 rfl Tryz.ntmps23 rfl rfl ?_
  intro Rb hRb hRn
  refine tx ?_
  refine sr 1 ?_
  refine sgs ?_
  refine tx ?_
  refine sr 1 ?_
  refine s1 (y_len_slice rfl rfl Tryz.underlying24) ?_
  refine sr 1 ?_
  refine sgo ?_
  refine T_cond rfl ?_ ?_ <;> intro h8
  · try simp only [nrm] at h8
    refine tx ?_
    refine sr 1 ?_
    refine sgo ?_
    refine tr1 hRb fun w hM => ?_
    exact ⟨by rw [if_pos (by omega)], hM.below⟩
  try simp only [nrm] at h8
  refine kgs ?_
  refine tx ?_
  refine sr 1 ?_
  refine s1 (y_len_slice rfl rfl Tryz.underlying24) ?_
  refine sr 1 ?_
  refine sgo ?_
  refine T_block ?_
  refine lK2 (kf := [(2, 5), (11, 45)]) (kl := [(2, 5), (11, 45)]) (fun (i : Nat) (b : SCrumb) => [(11, true, .int .i64 (i : Int))]) (fun (i : Nat) (b : SCrumb) => []) (fun (i : Nat) (b : SCrumb) => i ≤ l.q ∧ crumbsNo none l.l = crumbsNo (prevA i b) (l.l.drop i) ∧ (0 < i → l.l[i - 1]? = some b)) (fun (i : Nat) (b : SCrumb) => l.q - i) 0 ⟨0, [], []⟩ ?_ ?_ ?_ ?_
  · exact ⟨by omega, rfl, by omega⟩
  · exact ⟨rfl, trivial⟩
  · exact trivial
  rintro i b ⟨hp1, hp2, hp3⟩
  refine tx ?_
  refine sr 1 ?_
  refine sgs ?_
  refine T_cond rfl ?_ ?_ <;> intro h12
  · try simp only [nrm] at h12
    obtain ⟨x, hx1, hx2⟩ := ht.at (i := i) (by omega)
    have hn := hl.n x (mem_at hx1)
    have hn2 := hn.2
    refine kgs ?_
    refine T_block ?_
    refine tx ?_
    refine sr 1 ?_
    refine s1 (y_indexAddr rfl rfl rfl Tryz.underlying24 sz85 (fun hg => ht.isSome (by omega)) (fun _ => by omega)) ?_
    refine s1 (y_loadT rfl rfl ht (fun _ => rfl) (fun _ => hx1) Tryz.underlying85 rfl sz85) ?_
    refine S_alloc 4 4 rfl rfl rfl rfl z85 ?_
    intro b4
    refine sr 1 ?_
    refine S_store 4 rfl rfl rfl rfl rfl rfl sz85 rfl rfl ?_
    refine sgs ?_
    refine T_block ?_
    refine tx ?_
    refine s1 (yF fa85_0) ?_
    refine s1 (yL 4 Tryz.underlying3) ?_
    refine s1 (y_call rfl rfl rfl cf26 (fun _ w _ => eoutside_any _ _ _ w)) ?_
    refine sr 1 ?_
    refine sgo ?_
    refine T_cond rfl ?_ ?_ <;> intro h16
    · skip
      refine tx ?_
      refine sr 1 ?_
      refine sgo ?_
      refine tr1 hRb fun w hM => ?_
      exact ⟨by rw [if_neg (by omega), hp2, hx2, crumbsNo, if_t h16], hM.below⟩
    refine T_seq ?_
    refine T_draws (by kernel_rfl) (by kernel_rfl) ?_
    refine d1 (y_move rfl rfl) ?_
    refine d1 (y_bin rfl rfl rfl (fun _ => b_gtr)) ?_
    refine d1 (y_move rfl rfl) ?_
    refine dg rfl (yF fa85_0) ?_
    refine dg rfl (yL 4 Tryz.underlying3) ?_
    refine dg rfl (y_move rfl rfl) ?_
    refine dg rfl (y_move rfl rfl) ?_
    refine dg rfl (y_bin rfl rfl rfl (fun hg => b_subv (((i - 1 : Nat) : Int)) (by simp only [Bool.true_and, Bool.and_eq_true, beq_iff_eq, decide_eq_true_eq, decide_eq_false_iff_not, Int.not_lt, Int.not_le] at hg; omega) (by simp only [Bool.true_and, Bool.and_eq_true, beq_iff_eq, decide_eq_true_eq, decide_eq_false_iff_not, Int.not_lt, Int.not_le] at hg; omega))) ?_
    refine dg rfl (y_indexAddr rfl rfl rfl Tryz.underlying24 sz85 (fun hg => ht.isSome (by simp only [Bool.true_and, Bool.and_eq_true, beq_iff_eq, decide_eq_true_eq, decide_eq_false_iff_not, Int.not_lt, Int.not_le] at hg; omega)) (fun hg => by simp only [Bool.true_and, Bool.and_eq_true, beq_iff_eq, decide_eq_true_eq, decide_eq_false_iff_not, Int.not_lt, Int.not_le] at hg; omega)) ?_
    refine dg rfl (y_fieldEl rfl rfl ht.rd (fun hg => by simp only [Bool.true_and, Bool.and_eq_true, beq_iff_eq, decide_eq_true_eq, decide_eq_false_iff_not, Int.not_lt, Int.not_le] at hg; omega) fa85_0) ?_
    refine dg rfl (y_load_fT rfl rfl ht (fun _ => rfl) (fun hg => hp3 (by simp only [Bool.true_and, Bool.and_eq_true, beq_iff_eq, decide_eq_true_eq, decide_eq_false_iff_not, Int.not_lt, Int.not_le] at hg; omega)) rfl Tryz.underlying3 rfl) ?_
    refine dg rfl (y_bin rfl rfl rfl (fun _ => b_lss)) ?_
    refine d1 (y_as (v' := .bool ((prevA i b).any fun n => decide (x.at_ < n))) (by rw [prevA_any]) (y_and rfl rfl rfl)) ?_
    refine d1 (y_assign rfl rfl) ?_
    refine dgo ?_
    refine T_cond rfl ?_ ?_ <;> intro h20
    · skip
      refine tx ?_
      refine sr 1 ?_
      refine sgo ?_
      refine tr1 hRb fun w hM => ?_
      exact ⟨by rw [if_neg (by omega), hp2, hx2, crumbsNo, if_f h16, if_t h20], hM.below⟩
    refine tx ?_
    refine s1 (yF fa85_1) ?_
    refine s1 (yL 4 Tryz.underlying9) ?_
    refine s1 (y_call rfl rfl rfl cf24 (fun _ w _ => IsName_any _ w)) ?_
    refine sr 2 ?_
    refine sgo ?_
    refine T_cond rfl ?_ ?_ <;> intro h34
    · try simp only [nrm] at h34
      refine tx ?_
      refine sr 1 ?_
      refine sgo ?_
      refine tr1 hRb fun w hM => ?_
      exact ⟨by rw [if_neg (by omega), hp2, hx2, crumbsNo, if_f h16, if_f h20, if_pos h34], hM.below⟩
    try simp only [nrm] at h34
    refine kgx ?_
    refine s1 (yF fa85_2) ?_
    refine s1 (yL 4 Tryz.underlying9) ?_
    refine s1 (y_call rfl rfl rfl cf63 (fun _ w _ => checkSay_any _ (by first | omega | (simp; done) | (simp; omega) | (simp only; omega)) w)) ?_
    refine sr 1 ?_
    refine sgx ?_
    refine sr 2 ?_
    refine sgo ?_
    refine T_cond rfl ?_ ?_ <;> intro h43
    · try simp only [nrm] at h43
      refine tx ?_
      refine sr 2 ?_
      refine sgo ?_
      refine tr1 hRb fun w hM => ?_
      exact ⟨by rw [if_neg (by omega), hp2, hx2, crumbsNo, if_f h16, if_f h20, if_neg (by rw [h34]; simp), if_pos h43], hM.below⟩
    try simp only [nrm] at h43
    refine kgr ?_
    refine s1 (y_bin rfl rfl rfl (fun hg => b_add (by omega))) ?_
    refine sr 1 ?_
    refine S_nil (nK2 (kf := [(2, 5), (11, 45)]) (kl := [(2, 5), (11, 45)]) (i + 1) x ?_ ?_ ?_ ?_)
    · omega
    · exact ⟨by omega, by rw [hp2, hx2, crumbsNo, if_f h16, if_f h20, if_neg (by rw [h34]; simp), if_neg (by simpa using h43)]; rfl, fun _ => hx1⟩
    · exact ⟨rfl, trivial⟩
    · exact trivial
  try simp only [nrm] at h12
  refine egx ?_
  refine sr 1 ?_
  refine sgo ?_
  refine tr1 hRb fun w hM => ?_
  exact ⟨by rw [if_neg (by omega), hp2, ht.end (by omega), crumbsNo_nil], hM.below⟩
theorem checkHead_any (e : Evt) (w : World) :
    Calls Tryz.prog 20 #[e.val] w fun en w' => en = .returned (.int .i64 (headNo e.id e.at_ e.lv)) ∧ Below w.heap.size w w' := by
  refine enter_args (args := [.agg #[str e.id, .int .i64 e.at_, .int .i64 e.lv, .slice e.fa.A e.fa.q e.fa.c, .slice e.ta.A e.ta.q e.ta.c, .slice e.cr.A e.cr.q e.cr.c, str e.rel, str e.us, .int .i64 e.wt]]) (F := _) Tryz.func20 rfl Tryz.ntmps20 rfl rfl ?_
  intro Rb hRb hRn
  refine tx ?_
  refine S_box 1 1 rfl rfl rfl rfl rfl ?_
  intro b1
  refine sr 1 ?_
  refine sgs ?_
  refine tx ?_
  refine s1 (yF fa26_0) ?_
  refine s1 (yL 1 Tryz.underlying9) ?_
  refine s1 (y_call rfl rfl rfl cf61 (fun _ w _ => isDigest_any _ w)) ?_
  refine sr 1 ?_
  refine sgo ?_
  refine T_cond rfl ?_ ?_ <;> intro h6
  · try simp only [nrm] at h6
    refine tx ?_
    refine sr 1 ?_
    refine sgo ?_
    refine tr1 hRb fun w hM => ?_
    exact ⟨by rw [headNo, if_pos h6], hM.below⟩
  try simp only [nrm] at h6
  refine kgs ?_
  refine tx ?_
  refine s1 (yF fa26_1) ?_
  refine s1 (yL 1 Tryz.underlying3) ?_
  refine s1 (y_call rfl rfl rfl cf26 (fun _ w _ => eoutside_any _ _ _ w)) ?_
  refine sr 1 ?_
  refine sg rfl (yF fa26_2) ?_
  refine sg rfl (yL 1 Tryz.underlying3) ?_
  refine sg rfl (y_call rfl rfl rfl cf26 (fun _ w _ => eoutside_any _ _ _ w)) ?_
  refine s1 (y_or rfl rfl rfl) ?_
  refine sgo ?_
  refine T_cond rfl ?_ ?_ <;> intro h14
  · skip
    refine tx ?_
    refine sr 1 ?_
    refine sgo ?_
    refine tr1 hRb fun w hM => ?_
    exact ⟨by rw [headNo, if_neg (by rw [h6]; simp), if_t h14], hM.below⟩
  refine kgx ?_
  refine sr 1 ?_
  refine sgo ?_
  refine tr1 hRb fun w hM => ?_
  exact ⟨by rw [headNo, if_neg (by rw [h6]; simp), if_f h14], hM.below⟩
theorem Check_any (e : Evt) (w : World) (he : e.Ok w) :
    Calls Tryz.prog 6 #[e.val] w fun en w' => en = .returned (.int .i64 (evNo e)) ∧ Below w.heap.size w w' := by
  have hus := he.us
  refine enter_args (args := [.agg #[str e.id, .int .i64 e.at_, .int .i64 e.lv, .slice e.fa.A e.fa.q e.fa.c, .slice e.ta.A e.ta.q e.ta.c, .slice e.cr.A e.cr.q e.cr.c, str e.rel, str e.us, .int .i64 e.wt]]) (F := _) Tryz.func6 rfl Tryz.ntmps6 rfl rfl ?_
  intro Rb hRb hRn
  refine tx ?_
  refine S_box 1 1 rfl rfl rfl rfl rfl ?_
  intro b1
  refine sr 1 ?_
  refine sgs ?_
  refine tx ?_
  refine s1 (yA 1 rfl Tryz.underlying26 sz26) ?_
  refine s1 (y_call rfl rfl rfl cf20 (fun _ w _ => checkHead_any e w)) ?_
  refine sr 1 ?_
  refine sgx ?_
  refine sr 2 ?_
  refine sgo ?_
  refine T_cond rfl ?_ ?_ <;> intro h11
  · try simp only [nrm] at h11
    refine tx ?_
    refine sr 2 ?_
    refine sgo ?_
    refine tr1 hRb fun w hM => ?_
    exact ⟨by rw [evNo, fst_t h11], hM.below⟩
  try simp only [nrm] at h11
  refine kgs ?_
  refine tx ?_
  refine s1 (yF fa26_3) ?_
  refine s1 (yL 1 Tryz.underlying22) ?_
  refine s1 (y_call rfl rfl rfl cf21 (fun _ w hM => sCheck_any e.fa w (he.fa.below hM.below))) ?_
  refine sr 1 ?_
  refine sgx ?_
  refine sr 2 ?_
  refine sgo ?_
  refine T_cond rfl ?_ ?_ <;> intro h17
  · try simp only [nrm] at h17
    refine tx ?_
    refine sr 2 ?_
    refine sgo ?_
    refine tr1 hRb fun w hM => ?_
    exact ⟨by rw [evNo, fst_f h11, fst_t h17], hM.below⟩
  try simp only [nrm] at h17
  refine kgs ?_
  refine tx ?_
  refine s1 (yF fa26_4) ?_
  refine s1 (yL 1 Tryz.underlying23) ?_
  refine s1 (y_call rfl rfl rfl cf22 (fun _ w hM => checkTags_any e.ta w (he.ta.below hM.below))) ?_
  refine sr 1 ?_
  refine sgx ?_
  refine sr 2 ?_
  refine sgo ?_
  refine T_cond rfl ?_ ?_ <;> intro h23
  · try simp only [nrm] at h23
    refine tx ?_
    refine sr 2 ?_
    refine sgo ?_
    refine tr1 hRb fun w hM => ?_
    exact ⟨by rw [evNo, fst_f h11, fst_f h17, fst_t h23], hM.below⟩
  try simp only [nrm] at h23
  refine kgs ?_
  refine tx ?_
  refine s1 (yF fa26_5) ?_
  refine s1 (yL 1 Tryz.underlying24) ?_
  refine s1 (y_call rfl rfl rfl cf23 (fun _ w hM => checkCrumbs_any e.cr w (he.cr.below hM.below))) ?_
  refine sr 1 ?_
  refine sgx ?_
  refine sr 2 ?_
  refine sgo ?_
  refine T_cond rfl ?_ ?_ <;> intro h29
  · try simp only [nrm] at h29
    refine tx ?_
    refine sr 2 ?_
    refine sgo ?_
    refine tr1 hRb fun w hM => ?_
    exact ⟨by rw [evNo, fst_f h11, fst_f h17, fst_f h23, fst_t h29], hM.below⟩
  try simp only [nrm] at h29
  refine kgs ?_
  refine tx ?_
  refine s1 (yF fa26_6) ?_
  refine s1 (yL 1 Tryz.underlying9) ?_
  refine s1 (y_bin rfl rfl rfl (fun _ => b_neqs)) ?_
  refine sr 1 ?_
  refine sg rfl (yF fa26_6) ?_
  refine sg rfl (yL 1 Tryz.underlying9) ?_
  refine sg rfl (y_call rfl rfl rfl cf24 (fun _ w _ => IsName_any _ w)) ?_
  refine sg rfl (y_not rfl rfl) ?_
  refine s1 (y_and rfl rfl rfl) ?_
  refine sgo ?_
  refine T_cond rfl ?_ ?_ <;> intro h39
  · skip
    refine tx ?_
    refine sr 1 ?_
    refine sgo ?_
    refine tr1 hRb fun w hM => ?_
    exact ⟨by rw [evNo, fst_f h11, fst_f h17, fst_f h23, fst_f h29, if_t h39], hM.below⟩
  refine kgs ?_
  refine tx ?_
  refine s1 (yF fa26_7) ?_
  refine s1 (yL 1 Tryz.underlying9) ?_
  refine s1 (y_call rfl rfl rfl cf25 (fun _ w _ => checkValue_any _ (by first | omega | (simp; done) | (simp; omega) | (simp only; omega)) w)) ?_
  refine sr 1 ?_
  refine sgx ?_
  refine sr 2 ?_
  refine sgo ?_
  refine T_cond rfl ?_ ?_ <;> intro h44
  · try simp only [nrm] at h44
    refine tx ?_
    refine sr 2 ?_
    refine sgo ?_
    refine tr1 hRb fun w hM => ?_
    exact ⟨by rw [evNo, fst_f h11, fst_f h17, fst_f h23, fst_f h29, if_f h39, fst_t h44], hM.below⟩
  try simp only [nrm] at h44
  refine kgs ?_
  refine tx ?_
  refine s1 (yF fa26_8) ?_
  refine s1 (yL 1 Tryz.underlying3) ?_
  refine s1 (y_call rfl rfl rfl cf26 (fun _ w _ => eoutside_any _ _ _ w)) ?_
  refine sgo ?_
  refine T_cond rfl ?_ ?_ <;> intro h48
  · skip
    refine tx ?_
    refine sr 1 ?_
    refine sgo ?_
    refine tr1 hRb fun w hM => ?_
    exact ⟨by rw [evNo, fst_f h11, fst_f h17, fst_f h23, fst_f h29, if_f h39, fst_f h44, if_t h48], hM.below⟩
  refine kgx ?_
  refine sr 1 ?_
  refine sgo ?_
  refine tr1 hRb fun w hM => ?_
  exact ⟨by rw [evNo, fst_f h11, fst_f h17, fst_f h23, fst_f h29, if_f h39, fst_f h44, if_f h48], hM.below⟩
end Go.Proofs.YtgbldojgbpgjbaaGreatDoor
end
section
namespace Go.Proofs.YtgbldojgbpgjbaaGreatDoor
set_option linter.unusedSimpArgs false
set_option linter.unusedVariables false
set_option maxRecDepth 20000
open Go.RowKit Go.Eng
def fndP {α : Type} (p : α → Bool) : List α → Nat → Int
  | [], _ => -1
  | a :: r, i => if p a = true then (i : Int) else fndP p r (i + 1)
theorem fndP_any {α : Type} (p : α → Bool) : ∀ (l : List α) (i : Nat), decide (0 ≤ fndP p l i) = l.any p
  | [], i => rfl
  | a :: r, i => by
    rw [fndP, List.any_cons]
    cases h : p a with
    | true => rw [if_pos rfl, Bool.true_or]; exact decide_eq_true (by omega)
    | false => rw [if_neg Bool.false_ne_true, fndP_any p r, Bool.false_or]
theorem IndexFC_any (A : Option Addr) (q c : Nat) (l : List SC) (g : FuncId) (cap : Array Value) (p : SC → Bool) (w : World) (hl : SlT SC.enc 6 w A q l) (hq : q ≤ 4611686018427387904) (hcf : ∀ args w, (callFunc g args).run Tryz.prog w = .ok (.enter g args) w)
    (hA : ∀ x ∈ l, ∀ w', Below w.heap.size w w' → Calls Tryz.prog g (#[x.val] ++ cap) w' fun e w'' => e = .returned (.bool (p x)) ∧ Below w'.heap.size w' w'') :
    Calls Tryz.prog 248 #[.slice A q c, .func (.func g) #[] cap] w fun e w' => e = .returned (.int .i64 (fndP p l 0)) ∧ Below w.heap.size w w' := by
  refine enter_args (args := [.slice A q c, .func (.func g) #[] cap]) (F := _) Tryz.func248 rfl Tryz.ntmps248 rfl rfl ?_
  intro Rb hRb hRn
  refine tx ?_
  refine sr 1 ?_
  refine sgs ?_
  refine tx ?_
  refine sr 1 ?_
  refine s1 (y_len_slice rfl rfl Tryz.underlying48) ?_
  refine sr 1 ?_
  refine sgo ?_
  refine T_block ?_
  refine lK1 (kf := [(4, 5), (8, 18)]) (kl := [(4, 5), (8, 18)]) (fun (i : Nat) => [(8, true, .int .i64 (i : Int))]) (fun (i : Nat) => []) (fun (i : Nat) => i ≤ q ∧ fndP p l 0 = fndP p (l.drop i) i) (fun (i : Nat) => q - i) 0 ?_ ?_ ?_ ?_
  · exact ⟨by omega, rfl⟩
  · exact ⟨rfl, trivial⟩
  · exact trivial
  rintro i ⟨hp1, hp2⟩
  refine tx ?_
  refine sr 1 ?_
  refine sgs ?_
  refine T_cond rfl ?_ ?_ <;> intro h9
  · try simp only [nrm] at h9
    obtain ⟨x, hx1, hx2⟩ := hl.at (i := i) (by omega)
    refine kgs ?_
    refine T_block ?_
    refine tx ?_
    refine sr 2 ?_
    refine sgx ?_
    refine sr 3 ?_
    refine s1 (y_indexAddr rfl rfl rfl Tryz.underlying48 sz50 (fun hg => hl.isSome (by omega)) (fun _ => by omega)) ?_
    refine s1 (y_loadT rfl rfl hl (fun _ => rfl) (fun _ => hx1) Tryz.underlying50 rfl sz50) ?_
    refine s1 (y_call rfl rfl rfl hcf (fun _ w hM => hA x (mem_at hx1) w hM.below)) ?_
    refine sgo ?_
    refine T_cond rfl ?_ ?_ <;> intro h16
    · skip
      refine tx ?_
      refine sr 2 ?_
      refine sgo ?_
      refine tr1 hRb fun w hM => ?_
      exact ⟨by rw [hp2, hx2, fndP, if_pos h16], hM.below⟩
    refine kgr ?_
    refine s1 (y_bin rfl rfl rfl (fun hg => b_add (by omega))) ?_
    refine sr 1 ?_
    refine S_nil (nK1 (kf := [(4, 5), (8, 18)]) (kl := [(4, 5), (8, 18)]) (i + 1) ?_ ?_ ?_ ?_)
    · omega
    · exact ⟨by omega, by rw [hp2, hx2, fndP, if_neg (by simp [h16])]⟩
    · exact ⟨rfl, trivial⟩
    · exact trivial
  try simp only [nrm] at h9
  refine egx ?_
  refine sr 1 ?_
  refine sgo ?_
  refine tr1 hRb fun w hM => ?_
  exact ⟨by rw [hp2, hl.end (by omega)]; rfl, hM.below⟩
theorem ContFC_any (A : Option Addr) (q c : Nat) (l : List SC) (g : FuncId) (cap : Array Value) (p : SC → Bool) (w : World) (hl : SlT SC.enc 6 w A q l) (hq : q ≤ 4611686018427387904) (hcf : ∀ args w, (callFunc g args).run Tryz.prog w = .ok (.enter g args) w)
    (hA : ∀ x ∈ l, ∀ w', Below w.heap.size w w' → Calls Tryz.prog g (#[x.val] ++ cap) w' fun e w'' => e = .returned (.bool (p x)) ∧ Below w'.heap.size w' w'') :
    Calls Tryz.prog 184 #[.slice A q c, .func (.func g) #[] cap] w fun e w' => e = .returned (.bool (l.any p)) ∧ Below w.heap.size w w' := by
  rw [← fndP_any p l 0]
  refine enter_args (args := [.slice A q c, .func (.func g) #[] cap]) (F := _) Tryz.func184 rfl Tryz.ntmps184 rfl rfl ?_
  intro Rb hRb hRn
  refine tx ?_
  refine sr 1 ?_
  refine sgx ?_
  refine sr 2 ?_
  refine s1 (y_call rfl rfl rfl cf248 (fun _ w hM => IndexFC_any A q c l g cap p w (hl.below hM.below) hq hcf fun x hx w1 hb => hA x hx w1 (hM.below.trans (hb.mono hM.below.size)))) ?_
  refine sr 2 ?_
  refine sgo ?_
  refine tr1 hRb fun w hM => ?_
  exact ⟨rfl, hM.below⟩
theorem cellK {w w' : World} {b off : Nat} {v : Value} (h : w.cell? ⟨b, off, none⟩ = some v ∧ b < w.heap.size) (hb : Below w.heap.size w w') : w'.cell? ⟨b, off, none⟩ = some v ∧ b < w'.heap.size :=
  ⟨by rw [World.cell?, hb.block _ h.2]; exact h.1, Nat.lt_of_lt_of_le h.2 hb.size⟩
theorem SC.Ok.parts {x : SC} {w : World} (h : x.Ok w) : Sl.Ok SC.enc 6 w ⟨x.ad, x.q, x.c, x.kids⟩ ∧ x.q ≤ 4611686018427387904 ∧ x.q * 80 ≤ 140737488355328 ∧ x.nm.length ≤ 4611686018427387904 ∧ x.tx.length ≤ 4611686018427387904 ∧ ∀ k ∈ x.kids, k.Ok w := by
  cases h with
  | mk h1 h2 h3 h4 h5 h6 => exact ⟨h1, h2, h3, h4, h5, h6⟩
def DeepAt (m : Nat) : Prop := ∀ (x : SC) (w : World), x.Ok w → Calls Tryz.prog 92 #[x.val, .int .i64 (m : Int)] w fun e w' => e = .returned (.bool (deepP m x.says)) ∧ Below w.heap.size w w'
theorem deep1_any (m : Nat) (hm : m ≤ 1000000) (ih : DeepAt m) (x : SC) (b : Nat) (w : World) (hk : x.Ok w) (hc : w.cell? ⟨b, 0, none⟩ = some (.int .i64 ((m + 1 : Nat) : Int)) ∧ b < w.heap.size) :
    Calls Tryz.prog 185 #[x.val, .pointer (some ⟨b, 0, none⟩)] w fun e w' => e = .returned (.bool (deepP m x.says)) ∧ Below w.heap.size w w' := by
  refine enter_args (args := [.agg #[.int .i64 x.op, .slice x.ad x.q x.c, .int .i64 x.lo, .int .i64 x.hi, str x.nm, str x.tx], .pointer (some ⟨b, 0, none⟩)]) (F := _) Tryz.func185 rfl Tryz.ntmps185 rfl rfl ?_
  intro Rb hRb hRn
  refine tx ?_
  refine S_box 2 2 rfl rfl rfl rfl rfl ?_
  intro b2
  refine sr 1 ?_
  refine sgx ?_
  refine s1 (yA 2 rfl Tryz.underlying50 sz50) ?_
  refine s1 (y_load_far rfl rfl hc.1 hc.2 Tryz.underlying3 rfl) ?_
  refine s1 (y_bin rfl rfl rfl (fun hg => b_subv (((m : Nat) : Int)) (by omega) (by omega))) ?_
  refine s1 (y_call rfl rfl rfl cf92 (fun _ w1 hM => ih x w1 (hk.lift hM.below))) ?_
  refine sr 1 ?_
  refine sgo ?_
  refine tr1 hRb fun w hM => ?_
  exact ⟨rfl, hM.below⟩
theorem deep_step (m : Nat) (hm : m + 1 ≤ 1000000) (ih : DeepAt m) : DeepAt (m + 1) := fun x w hok => by
  obtain ⟨hs, hq, hb, hn, ht, hk⟩ := hok.parts
  have e : deepP (m + 1) x.says = x.kids.any fun k => deepP m k.says := by rw [deepP, SC.says_kids, List.any_map]; rfl
  rw [e]
  refine enter_args (args := [.agg #[.int .i64 x.op, .slice x.ad x.q x.c, .int .i64 x.lo, .int .i64 x.hi, str x.nm, str x.tx], .int .i64 ((m + 1 : Nat) : Int)]) (F := _) Tryz.func92 rfl Tryz.ntmps92 rfl rfl ?_
  intro Rb hRb hRn
  refine tx ?_
  refine S_box 2 2 rfl rfl rfl rfl rfl ?_
  intro b2
  refine S_box 3 3 rfl rfl rfl rfl rfl ?_
  intro b3
  refine sr 1 ?_
  refine sgs ?_
  refine tx ?_
  refine s1 (yL 3 Tryz.underlying3) ?_
  refine sr 1 ?_
  refine sgo ?_
  refine T_cond rfl ?_ ?_ <;> intro h6
  · skip
    have : ((m + 1 : Nat) : Int) = 0 := by simpa using h6
    omega
  refine kgx ?_
  refine s1 (yF fa50_1) ?_
  refine s1 (yL 2 Tryz.underlying48) ?_
  refine s1 (y_makeFunc rfl rfl rfl rfl rfl) ?_
  refine s1 (y_call rfl rfl rfl cf184 (fun _ w1 hM => ContFC_any x.ad x.q x.c x.kids 185 _ (fun k => deepP m k.says) w1 (hs.t.below hM.below) hq cf185 (fun k hkm w2 hb2 => deep1_any m (by omega) ih k b3 w2 ((hk k hkm).lift (hM.below.trans (hb2.mono hM.below.size))) (cellK (hM.box_cell (i := 3) rfl rfl) hb2)))) ?_
  refine sr 1 ?_
  refine sgo ?_
  refine tr1 hRb fun w hM => ?_
  exact ⟨rfl, hM.below⟩
theorem deep_zero : DeepAt 0 := fun x w hok => by
  refine enter_args (args := [.agg #[.int .i64 x.op, .slice x.ad x.q x.c, .int .i64 x.lo, .int .i64 x.hi, str x.nm, str x.tx], .int .i64 ((0 : Nat) : Int)]) (F := _) Tryz.func92 rfl Tryz.ntmps92 rfl rfl ?_
  intro Rb hRb hRn
  refine tx ?_
  refine S_box 2 2 rfl rfl rfl rfl rfl ?_
  intro b2
  refine S_box 3 3 rfl rfl rfl rfl rfl ?_
  intro b3
  refine sr 1 ?_
  refine sgs ?_
  refine tx ?_
  refine s1 (yL 3 Tryz.underlying3) ?_
  refine sr 1 ?_
  refine sgo ?_
  refine T_cond rfl ?_ ?_ <;> intro h6
  · skip
    refine tx ?_
    refine sr 1 ?_
    refine sgo ?_
    refine tr1 hRb fun w hM => ?_
    exact ⟨rfl, hM.below⟩
  cases h6
theorem tooDeep_any : ∀ m : Nat, m ≤ 1000000 → DeepAt m
  | 0, _ => deep_zero
  | m + 1, h => deep_step m h (tooDeep_any m (by omega))
end Go.Proofs.YtgbldojgbpgjbaaGreatDoor
end
section
namespace Go.Proofs.YtgbldojgbpgjbaaGreatDoor
set_option linter.unusedSimpArgs false
set_option linter.unusedVariables false
set_option maxRecDepth 20000
open Go.RowKit Go.Eng
theorem SC.says_form (x : SC) : x.says = .mk x.op (x.kids.map SC.says) x.lo x.hi x.nm x.tx := by cases x; rw [SC.says_mk]; rfl
def SizeAt (x : SC) : Prop := ∀ (most : Int) (w : World), 0 ≤ most → most ≤ 1000000 → x.Ok w → Calls Tryz.prog 93 #[x.val, .int .i64 most] w fun e w' => e = .returned (.int .i64 (sizeP x.says most)) ∧ Below w.heap.size w w'
theorem size_step (x : SC) (ih : ∀ k ∈ x.kids, SizeAt k) : SizeAt x := fun most w hm0 hm1 hok => by
  obtain ⟨hs, hq, hb, hn, ht, hk⟩ := hok.parts
  have hl : SlT SC.enc 6 w x.ad x.q x.kids := hs.t
  rw [SC.says_form, sizeP]
  refine enter_args (args := [.agg #[.int .i64 x.op, .slice x.ad x.q x.c, .int .i64 x.lo, .int .i64 x.hi, str x.nm, str x.tx], .int .i64 most]) (F := _) Tryz.func93 rfl Tryz.ntmps93 rfl rfl ?_
  intro Rb hRb hRn
  refine tx ?_
  refine S_box 2 2 rfl rfl rfl rfl rfl ?_
  intro b2
  refine sr 1 ?_
  refine sgx ?_
  refine sr 1 ?_
  refine sgs ?_
  refine tx ?_
  refine s1 (yF fa50_1) ?_
  refine s1 (yL 2 Tryz.underlying48) ?_
  refine s1 (y_len_slice rfl rfl Tryz.underlying48) ?_
  refine sr 1 ?_
  refine sgo ?_
  refine T_block ?_
  refine lK2 (kf := [(5, 5), (7, 7), (11, 25)]) (kl := [(5, 5), (7, 7), (11, 25)]) (fun (i : Nat) (n : Int) => [(11, true, .int .i64 (i : Int)), (5, true, .int .i64 n)]) (fun (i : Nat) (n : Int) => []) (fun (i : Nat) (n : Int) => i ≤ x.q ∧ sizeL ((x.kids.drop i).map SC.says) n most = sizeL (x.kids.map SC.says) 1 most ∧ 1 ≤ n ∧ n ≤ most + 1) (fun (i : Nat) (n : Int) => x.q - i) 0 1 ?_ ?_ ?_ ?_
  · exact ⟨by omega, rfl, by omega, by omega⟩
  · exact ⟨rfl, rfl, trivial⟩
  · exact trivial
  rintro i n ⟨hp1, hp2, hp3, hp4⟩
  refine tx ?_
  refine sr 1 ?_
  refine sgs ?_
  refine T_cond rfl ?_ ?_ <;> intro h12
  · try simp only [nrm] at h12
    obtain ⟨k, hx1, hx2⟩ := hl.at (i := i) (by omega)
    rw [hx2, List.map_cons, sizeL] at hp2
    refine kgs ?_
    refine T_block ?_
    refine tx ?_
    refine s1 (y_indexAddr rfl rfl rfl Tryz.underlying48 sz50 (fun hg => hl.isSome (by omega)) (fun _ => by omega)) ?_
    refine s1 (y_loadT rfl rfl hl (fun _ => rfl) (fun _ => hx1) Tryz.underlying50 rfl sz50) ?_
    refine S_alloc 7 7 rfl rfl rfl rfl z50 ?_
    intro b7
    refine S_store 7 rfl rfl rfl rfl rfl rfl sz50 rfl rfl ?_
    refine sgs ?_
    refine tx ?_
    refine sr 3 ?_
    refine sgo ?_
    refine T_cond rfl ?_ ?_ <;> intro h17
    · try simp only [nrm] at h17
      have h17 : most < n := by omega
      rw [if_pos h17] at hp2
      refine egx ?_
      refine sr 2 ?_
      refine sgo ?_
      refine tr1 hRb fun w hM => ?_
      exact ⟨by rw [← hp2], hM.below⟩
    try simp only [nrm] at h17
    have h17 : ¬ most < n := by omega
    rw [if_neg h17] at hp2
    have hz := sizeP_eq k.says (most - n) (by omega)
    have hc := cntP_pos k.says
    refine kgr ?_
    refine sr 1 ?_
    refine s1 (yA 7 rfl Tryz.underlying50 sz50) ?_
    refine sr 2 ?_
    refine s1 (y_bin rfl rfl rfl (fun hg => b_sub (by omega))) ?_
    refine s1 (y_call rfl rfl rfl cf93 (fun _ w1 hM => ih k (mem_at hx1) (most - n) w1 (by omega) (by omega) ((hk k (mem_at hx1)).lift hM.below))) ?_
    refine s1 (y_bin rfl rfl rfl (fun hg => b_add (by omega))) ?_
    refine sr 1 ?_
    refine sgr ?_
    refine s1 (y_bin rfl rfl rfl (fun hg => b_add (by omega))) ?_
    refine sr 1 ?_
    refine S_nil (nK2 (kf := [(5, 5), (7, 7), (11, 25)]) (kl := [(5, 5), (7, 7), (11, 25)]) (i + 1) (n + sizeP k.says (most - n)) ?_ ?_ ?_ ?_)
    · omega
    · exact ⟨by omega, hp2, by omega, by omega⟩
    · exact ⟨rfl, rfl, trivial⟩
    · exact trivial
  try simp only [nrm] at h12
  refine egx ?_
  refine sr 2 ?_
  refine sgo ?_
  refine tr1 hRb fun w hM => ?_
  exact ⟨by rw [← hp2, hl.end (by omega)]; rfl, hM.below⟩
theorem size_any (x : SC) : SizeAt x := SC.ind (Q := SizeAt) size_step x
def badC (c : UInt8) : Bool := decide (((c.toNat : Nat) : Int) < 32) || decide ((126 : Int) < ((c.toNat : Nat) : Int))
def txtNo (s : List UInt8) : Int := if s = [] then 1 else if (200 : Int) < s.length then 4 else if s.any badC = true then 9 else 0
theorem drD {p : List UInt8} {i : Nat} (h : i < p.length) : p.drop i = p.getD i 0 :: p.drop (i + 1) := by
  rw [List.drop_eq_getElem_cons h, List.getD_eq_getElem?_getD, List.getElem?_eq_getElem h]; rfl
theorem checkText_any (s : List UInt8) (w : World) :
    Calls Tryz.prog 190 #[str s] w fun e w' => e = .returned (.int .i64 (txtNo s)) ∧ Below w.heap.size w w' := by
  refine enter_args (args := [str s]) (F := _) Tryz.func190 rfl Tryz.ntmps190 rfl rfl ?_
  intro Rb hRb hRn
  refine tx ?_
  refine sr 1 ?_
  refine sgs ?_
  refine T_block ?_
  refine tx ?_
  refine sr 1 ?_
  refine s1 (y_bin rfl rfl rfl (fun _ => b_eqls)) ?_
  refine sr 1 ?_
  refine sgo ?_
  refine T_cond rfl ?_ ?_ <;> intro h4
  · skip
    have h4 : s = [] := by simpa using h4
    have e1 : txtNo s = 1 := if_pos h4
    refine tx ?_
    refine sr 1 ?_
    refine sgo ?_
    refine tr1 hRb fun w hM => ?_
    exact ⟨by rw [e1], hM.below⟩
  have h4 : ¬ s = [] := by simpa using h4
  refine tx ?_
  refine sr 1 ?_
  refine s1 (y_len_str rfl rfl Tryz.underlying9) ?_
  refine sr 2 ?_
  refine sgo ?_
  refine T_cond rfl ?_ ?_ <;> intro h7
  · skip
    have h7 : (200 : Int) < s.length := by simpa using h7
    have e1 : txtNo s = 4 := by rw [txtNo, if_neg h4, if_pos h7]
    refine tx ?_
    refine sr 1 ?_
    refine sgo ?_
    refine tr1 hRb fun w hM => ?_
    exact ⟨by rw [e1], hM.below⟩
  have h7 : ¬ (200 : Int) < s.length := by simpa using h7
  refine kgs ?_
  refine tx ?_
  refine sr 1 ?_
  refine s1 (y_len_str rfl rfl Tryz.underlying9) ?_
  refine sr 1 ?_
  refine sgo ?_
  refine T_block ?_
  refine lK1 (kf := [(2, 3), (13, 26)]) (kl := [(2, 3), (13, 26)]) (fun (i : Nat) => [(13, true, .int .i64 (i : Int))]) (fun (i : Nat) => []) (fun (i : Nat) => i ≤ s.length ∧ (s.drop i).any badC = s.any badC) (fun (i : Nat) => s.length - i) 0 ?_ ?_ ?_ ?_
  · exact ⟨by omega, rfl⟩
  · exact ⟨rfl, trivial⟩
  · exact trivial
  rintro i ⟨hp1, hp2⟩
  refine tx ?_
  refine sr 1 ?_
  refine sgs ?_
  refine T_cond rfl ?_ ?_ <;> intro h14
  · try simp only [nrm] at h14
    have hd := drD (p := s) (i := i) (by omega)
    rw [hd, List.any_cons] at hp2
    refine kgs ?_
    refine T_block ?_
    refine tx ?_
    refine sr 2 ?_
    refine sgx ?_
    refine sr 2 ?_
    refine s1 (y_index_str rfl rfl rfl Tryz.underlying9 (fun _ => by omega)) ?_
    refine sr 2 ?_
    refine sg rfl (y_move rfl rfl) ?_
    refine sg rfl (y_move rfl rfl) ?_
    refine sg rfl (y_index_str rfl rfl rfl Tryz.underlying9 (fun hg => by simp only [Bool.true_and, Bool.and_eq_true, beq_iff_eq, decide_eq_true_eq, decide_eq_false_iff_not, Int.not_lt, Int.not_le] at hg; omega)) ?_
    refine sg rfl (y_bin rfl rfl rfl (fun _ => b_gtr)) ?_
    refine s1 (y_as (v' := .bool (badC (s.getD i 0))) (by exact rfl) (y_or rfl rfl rfl)) ?_
    refine sgo ?_
    refine T_cond rfl ?_ ?_ <;> intro h25
    · skip
      rw [h25, Bool.true_or] at hp2
      have e1 : txtNo s = 9 := by rw [txtNo, if_neg h4, if_neg h7, if_pos hp2.symm]
      refine tx ?_
      refine sr 1 ?_
      refine sgo ?_
      refine tr1 hRb fun w hM => ?_
      exact ⟨by rw [e1], hM.below⟩
    rw [h25, Bool.false_or] at hp2
    refine kgr ?_
    refine s1 (y_bin rfl rfl rfl (fun hg => b_add (by omega))) ?_
    refine sr 1 ?_
    refine S_nil (nK1 (kf := [(2, 3), (13, 26)]) (kl := [(2, 3), (13, 26)]) (i + 1) ?_ ?_ ?_ ?_)
    · omega
    · exact ⟨by omega, hp2⟩
    · exact ⟨rfl, trivial⟩
    · exact trivial
  try simp only [nrm] at h14
  refine egx ?_
  refine sr 1 ?_
  refine sgo ?_
  refine tr1 hRb fun w hM => ?_
  have e1 : s.any badC = false := by rw [← hp2, List.drop_eq_nil_of_le (by omega)]; rfl
  exact ⟨by rw [txtNo, if_neg h4, if_neg h7, if_neg (by rw [e1]; simp)], hM.below⟩
theorem groups_any (op : Int) (w : World) : Calls Tryz.prog 186 #[.int .i64 op] w fun e w' => e = .returned (.bool (grpB op)) ∧ Below w.heap.size w w' := by
  refine enter_args (args := [.int .i64 op]) (F := _) Tryz.func186 rfl Tryz.ntmps186 rfl rfl ?_
  intro Rb hRb hRn
  refine tx ?_
  refine sr 1 ?_
  refine sgx ?_
  refine sr 3 ?_
  refine sgo ?_
  refine tr1 hRb fun w hM => ?_
  exact ⟨rfl, hM.below⟩
theorem ranges_any (op : Int) (w : World) : Calls Tryz.prog 187 #[.int .i64 op] w fun e w' => e = .returned (.bool (rngB op)) ∧ Below w.heap.size w w' := by
  refine enter_args (args := [.int .i64 op]) (F := _) Tryz.func187 rfl Tryz.ntmps187 rfl rfl ?_
  intro Rb hRb hRn
  refine tx ?_
  refine sr 1 ?_
  refine sgx ?_
  refine sr 3 ?_
  refine sg rfl (y_move rfl rfl) ?_
  refine sg rfl (y_bin rfl rfl rfl (fun _ => b_leq)) ?_
  refine s1 (y_and rfl rfl rfl) ?_
  refine sr 1 ?_
  refine sgo ?_
  refine tr1 hRb fun w hM => ?_
  exact ⟨rfl, hM.below⟩
theorem named_any (op : Int) (w : World) : Calls Tryz.prog 188 #[.int .i64 op] w fun e w' => e = .returned (.bool (nmdB op)) ∧ Below w.heap.size w w' := by
  refine enter_args (args := [.int .i64 op]) (F := _) Tryz.func188 rfl Tryz.ntmps188 rfl rfl ?_
  intro Rb hRb hRn
  refine tx ?_
  refine sr 1 ?_
  refine sgx ?_
  refine sr 3 ?_
  refine sg rfl (y_move rfl rfl) ?_
  refine sg rfl (y_bin rfl rfl rfl (fun _ => b_eql)) ?_
  refine s1 (y_or rfl rfl rfl) ?_
  refine sr 1 ?_
  refine sgo ?_
  refine tr1 hRb fun w hM => ?_
  exact ⟨rfl, hM.below⟩
theorem worded_any (op : Int) (w : World) : Calls Tryz.prog 189 #[.int .i64 op] w fun e w' => e = .returned (.bool (wrdB op)) ∧ Below w.heap.size w w' := by
  refine enter_args (args := [.int .i64 op]) (F := _) Tryz.func189 rfl Tryz.ntmps189 rfl rfl ?_
  intro Rb hRb hRn
  refine tx ?_
  refine sr 1 ?_
  refine sgx ?_
  refine sr 3 ?_
  refine sg rfl (y_move rfl rfl) ?_
  refine sg rfl (y_bin rfl rfl rfl (fun _ => b_geq)) ?_
  refine s1 (y_or rfl rfl rfl) ?_
  refine sr 1 ?_
  refine sgo ?_
  refine tr1 hRb fun w hM => ?_
  exact ⟨rfl, hM.below⟩
theorem fout_any (n lo hi : Int) (w : World) : Calls Tryz.prog 103 #[.int .i64 n, .int .i64 lo, .int .i64 hi] w fun e w' => e = .returned (.bool (!inB n lo hi)) ∧ Below w.heap.size w w' := by
  refine enter_args (args := [.int .i64 n, .int .i64 lo, .int .i64 hi]) (F := _) Tryz.func103 rfl Tryz.ntmps103 rfl rfl ?_
  intro Rb hRb hRn
  refine tx ?_
  refine sr 1 ?_
  refine sgx ?_
  refine sr 4 ?_
  refine sg rfl (y_move rfl rfl) ?_
  refine sg rfl (y_move rfl rfl) ?_
  refine sg rfl (y_bin rfl rfl rfl (fun _ => b_gtr)) ?_
  refine s1 (y_or rfl rfl rfl) ?_
  refine sr 1 ?_
  refine sgo ?_
  refine tr1 hRb fun w hM => ?_
  exact ⟨by rw [inB, Bool.not_not], hM.below⟩
end Go.Proofs.YtgbldojgbpgjbaaGreatDoor
end
section
namespace Go.Proofs.YtgbldojgbpgjbaaGreatDoor
set_option linter.unusedSimpArgs false
set_option linter.unusedVariables false
set_option maxRecDepth 20000
open Go.RowKit Go.Eng
abbrev hdXf (x : SC) : Int := chdNo txtNo nameOk x.op x.kids.length x.lo x.hi x.nm x.tx
def f1B (x : SC) : Bool := (decide (0 < x.kids.length) && !grpB x.op || ((!decide (x.lo = 0) || !decide (x.hi = 0)) && !rngB x.op) || (!decide (x.nm = []) && !nmdB x.op) || (!decide (x.tx = []) && !wrdB x.op))
def f2B (x : SC) : Bool := ((decide (x.op = 1) || decide (x.op = 2)) && decide (x.kids.length < 2) || decide (x.op = 3) && !decide (x.kids.length = 1))
def r1B (x : SC) : Bool := !inB x.lo (loR x.op) (hiR x.op) || !inB x.hi (loR x.op) (hiR x.op)
theorem hd_def (x : SC) : hdXf x = if inB x.op 1 14 = false then 10 else if f1B x = true then 1 else if f2B x = true then 1 else if (rngB x.op && r1B x) = true then 2 else if (rngB x.op && decide (x.hi < x.lo)) = true then 5 else if (nmdB x.op && !nameOk x.nm) = true then 3 else if wrdB x.op = true then txtNo x.tx else 0 := rfl
abbrev chX (x : SC) : Int := chkP (chdNo txtNo nameOk) x.says
theorem chX_def (x : SC) : chX x = if hdXf x ≠ 0 then hdXf x else chkL (chdNo txtNo nameOk) (x.kids.map SC.says) := by
  show chkP _ x.says = _
  rw [SC.says_form, chkP, List.length_map]
theorem chX_hd {x : SC} {n : Int} (h : hdXf x = n) (hn : n ≠ 0) : chX x = n := by rw [chX_def, h, if_pos hn]
theorem chX_kids {x : SC} (h : hdXf x = 0) : chX x = chkL (chdNo txtNo nameOk) (x.kids.map SC.says) := by rw [chX_def, h, if_neg (by simp)]
def OneAt (x : SC) : Prop := ∀ w : World, x.Ok w → Calls Tryz.prog 94 #[x.val] w fun e w' => e = .returned (.int .i64 (chX x)) ∧ Below w.heap.size w w'
theorem hd_rest {x : SC} (h1 : inB x.op 1 14 = true) (h2 : f1B x = false) (h3 : f2B x = false) : hdXf x = if (rngB x.op && r1B x) = true then 2 else if (rngB x.op && decide (x.hi < x.lo)) = true then 5 else if (nmdB x.op && !nameOk x.nm) = true then 3 else if wrdB x.op = true then txtNo x.tx else 0 := by
  rw [hd_def, if_neg (by rw [h1]; simp), if_neg (by rw [h2]; simp), if_neg (by rw [h3]; simp)]
theorem hd_late {x : SC} (h : hdXf x = if (rngB x.op && r1B x) = true then 2 else if (rngB x.op && decide (x.hi < x.lo)) = true then 5 else if (nmdB x.op && !nameOk x.nm) = true then 3 else if wrdB x.op = true then txtNo x.tx else 0) (h1 : (rngB x.op && r1B x) = false) (h2 : (rngB x.op && decide (x.hi < x.lo)) = false) : hdXf x = if (nmdB x.op && !nameOk x.nm) = true then 3 else if wrdB x.op = true then txtNo x.tx else 0 := by
  rw [h, if_neg (by rw [h1]; simp), if_neg (by rw [h2]; simp)]
set_option maxHeartbeats 3200000 in
theorem one_step (x : SC) (ih : ∀ k ∈ x.kids, OneAt k) : OneAt x := fun w hok => by
  obtain ⟨hs, hq, hb, hn, ht, hk⟩ := hok.parts
  have hl : SlT SC.enc 6 w x.ad x.q x.kids := hs.t
  have hlen := hl.len
  refine enter_args (args := [.agg #[.int .i64 x.op, .slice x.ad x.q x.c, .int .i64 x.lo, .int .i64 x.hi, str x.nm, str x.tx]]) (F := _) Tryz.func94 rfl Tryz.ntmps94 rfl rfl ?_
  intro Rb hRb hRn
  refine tx ?_
  refine S_box 1 1 rfl rfl rfl rfl rfl ?_
  intro b1
  refine sr 1 ?_
  refine sgs ?_
  refine tx ?_
  refine s1 (yF fa50_0) ?_
  refine s1 (yL 1 Tryz.underlying3) ?_
  refine s1 (y_call rfl rfl rfl cf103 (fun _ w _ => fout_any _ _ _ w)) ?_
  refine sgo ?_
  refine T_cond rfl ?_ ?_ <;> intro h11
  · skip
    have hi1 : inB x.op 1 14 = false := by simpa using h11
    have e1 : chX x = 10 := chX_hd (by rw [hd_def, if_pos hi1]) (by decide)
    refine tx ?_
    refine sr 1 ?_
    refine sgo ?_
    refine tr1 hRb fun w hM => ?_
    first | exact ⟨by rw [e1], hM.below⟩ | exact ⟨by rw [hch, ← hp2, hl.end (by omega)]; rfl, hM.below⟩
  have hi1 : inB x.op 1 14 = true := by simpa using h11
  refine kgs ?_
  refine tx ?_
  refine s1 (yF fa50_1) ?_
  refine s1 (yL 1 Tryz.underlying48) ?_
  refine s1 (y_len_slice rfl rfl Tryz.underlying48) ?_
  refine sr 2 ?_
  refine sg rfl (yF fa50_0) ?_
  refine sg rfl (yL 1 Tryz.underlying3) ?_
  refine sg rfl (y_call rfl rfl rfl cf186 (fun _ w _ => groups_any _ w)) ?_
  refine sg rfl (y_not rfl rfl) ?_
  refine s1 (y_and rfl rfl rfl) ?_
  refine sr 1 ?_
  refine sg rfl (yF fa50_2) ?_
  refine sg rfl (yL 1 Tryz.underlying3) ?_
  refine sg rfl (y_bin rfl rfl rfl (fun _ => b_neq)) ?_
  refine sg rfl (y_move rfl rfl) ?_
  refine sg rfl (yF fa50_3) ?_
  refine sg rfl (yL 1 Tryz.underlying3) ?_
  refine sg rfl (y_bin rfl rfl rfl (fun _ => b_neq)) ?_
  refine sg rfl (y_or rfl rfl rfl) ?_
  refine sg rfl (y_move rfl rfl) ?_
  refine sg rfl (yF fa50_0) ?_
  refine sg rfl (yL 1 Tryz.underlying3) ?_
  refine sg rfl (y_call rfl rfl rfl cf187 (fun _ w _ => ranges_any _ w)) ?_
  refine sg rfl (y_not rfl rfl) ?_
  refine sg rfl (y_and rfl rfl rfl) ?_
  refine s1 (y_or rfl rfl rfl) ?_
  refine sr 1 ?_
  refine sg rfl (yF fa50_4) ?_
  refine sg rfl (yL 1 Tryz.underlying9) ?_
  refine sg rfl (y_bin rfl rfl rfl (fun _ => b_neqs)) ?_
  refine sg rfl (y_move rfl rfl) ?_
  refine sg rfl (yF fa50_0) ?_
  refine sg rfl (yL 1 Tryz.underlying3) ?_
  refine sg rfl (y_call rfl rfl rfl cf188 (fun _ w _ => named_any _ w)) ?_
  refine sg rfl (y_not rfl rfl) ?_
  refine sg rfl (y_and rfl rfl rfl) ?_
  refine s1 (y_or rfl rfl rfl) ?_
  refine sr 1 ?_
  refine sg rfl (yF fa50_5) ?_
  refine sg rfl (yL 1 Tryz.underlying9) ?_
  refine sg rfl (y_bin rfl rfl rfl (fun _ => b_neqs)) ?_
  refine sg rfl (y_move rfl rfl) ?_
  refine sg rfl (yF fa50_0) ?_
  refine sg rfl (yL 1 Tryz.underlying3) ?_
  refine sg rfl (y_call rfl rfl rfl cf189 (fun _ w _ => worded_any _ w)) ?_
  refine sg rfl (y_not rfl rfl) ?_
  refine sg rfl (y_and rfl rfl rfl) ?_
  refine s1 (y_as (v' := .bool (f1B x)) (by simp only [f1B, hlen, Int.natCast_pos]) (y_or rfl rfl rfl)) ?_
  refine sgo ?_
  refine T_cond rfl ?_ ?_ <;> intro h59
  · skip
    have e1 : chX x = 1 := chX_hd (by rw [hd_def, if_neg (by rw [hi1]; simp), if_pos h59]) (by decide)
    refine tx ?_
    refine sr 1 ?_
    refine sgo ?_
    refine tr1 hRb fun w hM => ?_
    first | exact ⟨by rw [e1], hM.below⟩ | exact ⟨by rw [hch, ← hp2, hl.end (by omega)]; rfl, hM.below⟩
  refine kgs ?_
  refine tx ?_
  refine s1 (yF fa50_0) ?_
  refine s1 (yL 1 Tryz.underlying3) ?_
  refine sr 2 ?_
  refine sg rfl (yF fa50_0) ?_
  refine sg rfl (yL 1 Tryz.underlying3) ?_
  refine sg rfl (y_bin rfl rfl rfl (fun _ => b_eql)) ?_
  refine s1 (y_or rfl rfl rfl) ?_
  refine sr 1 ?_
  refine sg rfl (yF fa50_1) ?_
  refine sg rfl (yL 1 Tryz.underlying48) ?_
  refine sg rfl (y_len_slice rfl rfl Tryz.underlying48) ?_
  refine sg rfl (y_bin rfl rfl rfl (fun _ => b_lss)) ?_
  refine s1 (y_and rfl rfl rfl) ?_
  refine sr 1 ?_
  refine sg rfl (yF fa50_0) ?_
  refine sg rfl (yL 1 Tryz.underlying3) ?_
  refine sg rfl (y_bin rfl rfl rfl (fun _ => b_eql)) ?_
  refine sg rfl (y_move rfl rfl) ?_
  refine sg rfl (yF fa50_1) ?_
  refine sg rfl (yL 1 Tryz.underlying48) ?_
  refine sg rfl (y_len_slice rfl rfl Tryz.underlying48) ?_
  refine sg rfl (y_bin rfl rfl rfl (fun _ => b_neq)) ?_
  refine sg rfl (y_and rfl rfl rfl) ?_
  refine s1 (y_as (v' := .bool (f2B x)) (by rw [f2B, hlen, show decide (((x.q : Nat) : Int) < 2) = decide (x.q < 2) from decide_eq_decide.2 (by omega), show decide (((x.q : Nat) : Int) = 1) = decide (x.q = 1) from decide_eq_decide.2 (by omega)]) (y_or rfl rfl rfl)) ?_
  refine sgo ?_
  refine T_cond rfl ?_ ?_ <;> intro h84
  · skip
    have e1 : chX x = 1 := chX_hd (by rw [hd_def, if_neg (by rw [hi1]; simp), if_neg (by rw [h59]; simp), if_pos h84]) (by decide)
    refine tx ?_
    refine sr 1 ?_
    refine sgo ?_
    refine tr1 hRb fun w hM => ?_
    first | exact ⟨by rw [e1], hM.below⟩ | exact ⟨by rw [hch, ← hp2, hl.end (by omega)]; rfl, hM.below⟩
  have hre := hd_rest hi1 h59 h84
  refine kgs ?_
  refine tx ?_
  refine s1 (yF fa50_0) ?_
  refine s1 (yL 1 Tryz.underlying3) ?_
  refine s1 (y_call rfl rfl rfl cf187 (fun _ w _ => ranges_any _ w)) ?_
  refine sgo ?_
  refine T_cond rfl ?_ ?_ <;> intro h87
  · skip
    have hr : rngB x.op = true := h87
    refine tx ?_
    refine sr 2 ?_
    refine sgs ?_
    refine tx ?_
    refine s1 (yF fa50_0) ?_
    refine s1 (yL 1 Tryz.underlying3) ?_
    refine sgo ?_
    refine T_block ?_
    refine tx ?_
    refine sr 2 ?_
    refine sgo ?_
    refine T_cond rfl ?_ ?_ <;> intro h90
    · skip
      have hk5 : x.op = 5 := by simpa using h90
      refine T_region ?_
      refine sr 2 ?_
      refine sgs ?_
      refine tx ?_
      refine s1 (yF fa50_2) ?_
      refine s1 (yL 1 Tryz.underlying3) ?_
      refine sr 2 ?_
      refine s1 (y_call rfl rfl rfl cf103 (fun _ w _ => fout_any _ _ _ w)) ?_
      refine sr 1 ?_
      refine sg rfl (yF fa50_3) ?_
      refine sg rfl (yL 1 Tryz.underlying3) ?_
      refine sg rfl (y_move rfl rfl) ?_
      refine sg rfl (y_move rfl rfl) ?_
      refine sg rfl (y_call rfl rfl rfl cf103 (fun _ w _ => fout_any _ _ _ w)) ?_
      refine s1 (y_as (v' := .bool (r1B x)) (by rw [r1B, loR, hiR, if_pos hk5, if_pos hk5]) (y_or rfl rfl rfl)) ?_
      refine sgo ?_
      refine T_cond rfl ?_ ?_ <;> intro h105
      · skip
        have e1 : chX x = 2 := chX_hd (by rw [hre, if_pos (by rw [hr, h105]; rfl)]) (by decide)
        refine tx ?_
        refine sr 1 ?_
        refine sgo ?_
        refine tr1 hRb fun w hM => ?_
        first | exact ⟨by rw [e1], hM.below⟩ | exact ⟨by rw [hch, ← hp2, hl.end (by omega)]; rfl, hM.below⟩
      refine kgx ?_
      refine s1 (yF fa50_3) ?_
      refine s1 (yL 1 Tryz.underlying3) ?_
      refine s1 (yF fa50_2) ?_
      refine s1 (yL 1 Tryz.underlying3) ?_
      refine sr 1 ?_
      refine sgo ?_
      refine T_cond rfl ?_ ?_ <;> intro h110
      · skip
        have e1 : chX x = 5 := chX_hd (by rw [hre, if_neg (by rw [hr, h105]; simp), if_pos (by rw [hr, h110]; rfl)]) (by decide)
        refine tx ?_
        refine sr 1 ?_
        refine sgo ?_
        refine tr1 hRb fun w hM => ?_
        first | exact ⟨by rw [e1], hM.below⟩ | exact ⟨by rw [hch, ← hp2, hl.end (by omega)]; rfl, hM.below⟩
      have hla := hd_late hre (by rw [hr, h105]; rfl) (by rw [hr, h110]; rfl)
      refine kgs ?_
      refine tx ?_
      refine s1 (yF fa50_0) ?_
      refine s1 (yL 1 Tryz.underlying3) ?_
      refine s1 (y_call rfl rfl rfl cf188 (fun _ w _ => named_any _ w)) ?_
      refine sr 1 ?_
      refine sg rfl (yF fa50_4) ?_
      refine sg rfl (yL 1 Tryz.underlying9) ?_
      refine sg rfl (y_call rfl rfl rfl cf24 (fun _ w _ => IsName_any _ w)) ?_
      refine sg rfl (y_not rfl rfl) ?_
      refine s1 (y_and rfl rfl rfl) ?_
      refine sgo ?_
      refine T_cond rfl ?_ ?_ <;> intro h119
      · skip
        have e1 : chX x = 3 := chX_hd (by rw [hla, if_pos h119]) (by decide)
        refine tx ?_
        refine sr 1 ?_
        refine sgo ?_
        refine tr1 hRb fun w hM => ?_
        first | exact ⟨by rw [e1], hM.below⟩ | exact ⟨by rw [hch, ← hp2, hl.end (by omega)]; rfl, hM.below⟩
      rw [if_neg (by rw [h119]; simp)] at hla
      refine kgs ?_
      refine tx ?_
      refine s1 (yF fa50_0) ?_
      refine s1 (yL 1 Tryz.underlying3) ?_
      refine s1 (y_call rfl rfl rfl cf189 (fun _ w _ => worded_any _ w)) ?_
      refine sgo ?_
      refine T_cond rfl ?_ ?_ <;> intro h122
      · skip
        have hw : wrdB x.op = true := h122
        rw [if_pos hw] at hla
        refine tx ?_
        refine s1 (yF fa50_5) ?_
        refine s1 (yL 1 Tryz.underlying9) ?_
        refine s1 (y_call rfl rfl rfl cf190 (fun _ w _ => checkText_any _ w)) ?_
        refine sr 1 ?_
        refine sgx ?_
        refine sr 2 ?_
        refine sgo ?_
        refine T_cond rfl ?_ ?_ <;> intro h127
        · skip
          have hn0 : txtNo x.tx ≠ 0 := by simpa using h127
          have e1 : chX x = txtNo x.tx := chX_hd hla hn0
          refine tx ?_
          refine sr 2 ?_
          refine sgo ?_
          refine tr1 hRb fun w hM => ?_
          first | exact ⟨by rw [e1], hM.below⟩ | exact ⟨by rw [hch, ← hp2, hl.end (by omega)]; rfl, hM.below⟩
        have hn0 : txtNo x.tx = 0 := by simpa using h127
        have hch := chX_kids (hla.trans hn0)
        refine kgs ?_
        refine tx ?_
        refine s1 (yF fa50_1) ?_
        refine s1 (yL 1 Tryz.underlying48) ?_
        refine s1 (y_len_slice rfl rfl Tryz.underlying48) ?_
        refine sr 1 ?_
        refine sgo ?_
        refine T_block ?_
        refine lK1 (kf := [(2, 2), (7, 8), (132, 141)]) (kl := [(2, 2), (7, 8), (132, 141)]) (fun (i : Nat) => [(132, true, .int .i64 (i : Int))]) (fun (i : Nat) => []) (fun (i : Nat) => i ≤ x.q ∧ chkL (chdNo txtNo nameOk) ((x.kids.drop i).map SC.says) = chkL (chdNo txtNo nameOk) (x.kids.map SC.says)) (fun (i : Nat) => x.q - i) 0 ?_ ?_ ?_ ?_
        · exact ⟨by omega, rfl⟩
        · exact ⟨rfl, trivial⟩
        · exact trivial
        rintro i ⟨hp1, hp2⟩
        refine tx ?_
        refine sr 1 ?_
        refine sgs ?_
        refine T_cond rfl ?_ ?_ <;> intro h133
        · try simp only [nrm] at h133
          obtain ⟨k, hx1, hx2⟩ := hl.at (i := i) (by omega)
          rw [hx2, List.map_cons, chkL] at hp2
          refine kgs ?_
          refine T_block ?_
          refine tx ?_
          refine s1 (y_indexAddr rfl rfl rfl Tryz.underlying48 sz50 (fun hg => hl.isSome (by omega)) (fun _ => by omega)) ?_
          refine s1 (y_loadT rfl rfl hl (fun _ => rfl) (fun _ => hx1) Tryz.underlying50 rfl sz50) ?_
          refine S_alloc 7 7 rfl rfl rfl rfl z50 ?_
          intro b7
          refine S_store 7 rfl rfl rfl rfl rfl rfl sz50 rfl rfl ?_
          refine sgx ?_
          refine s1 (yA 7 rfl Tryz.underlying50 sz50) ?_
          refine s1 (y_call rfl rfl rfl cf94 (fun _ w1 hM => ih k (mem_at hx1) w1 ((hk k (mem_at hx1)).lift hM.below))) ?_
          refine sr 1 ?_
          refine sgx ?_
          refine sr 2 ?_
          refine sgo ?_
          refine T_cond rfl ?_ ?_ <;> intro h139
          · skip
            have hn1 : chX k ≠ 0 := by simpa using h139
            rw [if_pos hn1] at hp2
            have e1 : chX x = chX k := by rw [hch, ← hp2]
            refine tx ?_
            refine sr 2 ?_
            refine sgo ?_
            refine tr1 hRb fun w hM => ?_
            first | exact ⟨by rw [e1], hM.below⟩ | exact ⟨by rw [hch, ← hp2, hl.end (by omega)]; rfl, hM.below⟩
          have hn1 : chX k = 0 := by simpa using h139
          rw [if_neg (by rw [show chkP (chdNo txtNo nameOk) k.says = chX k from rfl, hn1]; simp)] at hp2
          refine kgr ?_
          refine s1 (y_bin rfl rfl rfl (fun hg => b_add (by omega))) ?_
          refine sr 1 ?_
          refine S_nil (nK1 (kf := [(2, 2), (7, 8), (132, 141)]) (kl := [(2, 2), (7, 8), (132, 141)]) (i + 1) ?_ ?_ ?_ ?_)
          · omega
          · exact ⟨by omega, hp2⟩
          · exact ⟨rfl, trivial⟩
          · exact trivial
        try simp only [nrm] at h133
        refine egx ?_
        refine sr 1 ?_
        refine sgo ?_
        refine tr1 hRb fun w hM => ?_
        first | exact ⟨by rw [e1], hM.below⟩ | exact ⟨by rw [hch, ← hp2, hl.end (by omega)]; rfl, hM.below⟩
      have hw : wrdB x.op = false := h122
      rw [if_neg (by rw [hw]; simp)] at hla
      have hch := chX_kids hla
      refine kgs ?_
      refine tx ?_
      refine s1 (yF fa50_1) ?_
      refine s1 (yL 1 Tryz.underlying48) ?_
      refine s1 (y_len_slice rfl rfl Tryz.underlying48) ?_
      refine sr 1 ?_
      refine sgo ?_
      refine T_block ?_
      refine lK1 (kf := [(2, 2), (7, 8), (132, 141)]) (kl := [(2, 2), (7, 8), (132, 141)]) (fun (i : Nat) => [(132, true, .int .i64 (i : Int))]) (fun (i : Nat) => []) (fun (i : Nat) => i ≤ x.q ∧ chkL (chdNo txtNo nameOk) ((x.kids.drop i).map SC.says) = chkL (chdNo txtNo nameOk) (x.kids.map SC.says)) (fun (i : Nat) => x.q - i) 0 ?_ ?_ ?_ ?_
      · exact ⟨by omega, rfl⟩
      · exact ⟨rfl, trivial⟩
      · exact trivial
      rintro i ⟨hp1, hp2⟩
      refine tx ?_
      refine sr 1 ?_
      refine sgs ?_
      refine T_cond rfl ?_ ?_ <;> intro h133
      · try simp only [nrm] at h133
        obtain ⟨k, hx1, hx2⟩ := hl.at (i := i) (by omega)
        rw [hx2, List.map_cons, chkL] at hp2
        refine kgs ?_
        refine T_block ?_
        refine tx ?_
        refine s1 (y_indexAddr rfl rfl rfl Tryz.underlying48 sz50 (fun hg => hl.isSome (by omega)) (fun _ => by omega)) ?_
        refine s1 (y_loadT rfl rfl hl (fun _ => rfl) (fun _ => hx1) Tryz.underlying50 rfl sz50) ?_
        refine S_alloc 7 7 rfl rfl rfl rfl z50 ?_
        intro b7
        refine S_store 7 rfl rfl rfl rfl rfl rfl sz50 rfl rfl ?_
        refine sgx ?_
        refine s1 (yA 7 rfl Tryz.underlying50 sz50) ?_
        refine s1 (y_call rfl rfl rfl cf94 (fun _ w1 hM => ih k (mem_at hx1) w1 ((hk k (mem_at hx1)).lift hM.below))) ?_
        refine sr 1 ?_
        refine sgx ?_
        refine sr 2 ?_
        refine sgo ?_
        refine T_cond rfl ?_ ?_ <;> intro h139
        · skip
          have hn1 : chX k ≠ 0 := by simpa using h139
          rw [if_pos hn1] at hp2
          have e1 : chX x = chX k := by rw [hch, ← hp2]
          refine tx ?_
          refine sr 2 ?_
          refine sgo ?_
          refine tr1 hRb fun w hM => ?_
          first | exact ⟨by rw [e1], hM.below⟩ | exact ⟨by rw [hch, ← hp2, hl.end (by omega)]; rfl, hM.below⟩
        have hn1 : chX k = 0 := by simpa using h139
        rw [if_neg (by rw [show chkP (chdNo txtNo nameOk) k.says = chX k from rfl, hn1]; simp)] at hp2
        refine kgr ?_
        refine s1 (y_bin rfl rfl rfl (fun hg => b_add (by omega))) ?_
        refine sr 1 ?_
        refine S_nil (nK1 (kf := [(2, 2), (7, 8), (132, 141)]) (kl := [(2, 2), (7, 8), (132, 141)]) (i + 1) ?_ ?_ ?_ ?_)
        · omega
        · exact ⟨by omega, hp2⟩
        · exact ⟨rfl, trivial⟩
        · exact trivial
      try simp only [nrm] at h133
      refine egx ?_
      refine sr 1 ?_
      refine sgo ?_
      refine tr1 hRb fun w hM => ?_
      first | exact ⟨by rw [e1], hM.below⟩ | exact ⟨by rw [hch, ← hp2, hl.end (by omega)]; rfl, hM.below⟩
    have hk5 : ¬ x.op = 5 := by simpa using h90
    refine tx ?_
    refine sr 2 ?_
    refine sgo ?_
    refine T_cond rfl ?_ ?_ <;> intro h92
    · skip
      have hk6 : x.op = 6 := by simpa using h92
      refine T_region ?_
      refine sr 1 ?_
      refine sgs ?_
      refine tx ?_
      refine s1 (yF fa50_2) ?_
      refine s1 (yL 1 Tryz.underlying3) ?_
      refine sr 2 ?_
      refine s1 (y_call rfl rfl rfl cf103 (fun _ w _ => fout_any _ _ _ w)) ?_
      refine sr 1 ?_
      refine sg rfl (yF fa50_3) ?_
      refine sg rfl (yL 1 Tryz.underlying3) ?_
      refine sg rfl (y_move rfl rfl) ?_
      refine sg rfl (y_move rfl rfl) ?_
      refine sg rfl (y_call rfl rfl rfl cf103 (fun _ w _ => fout_any _ _ _ w)) ?_
      refine s1 (y_as (v' := .bool (r1B x)) (by rw [r1B, loR, hiR, if_neg hk5, if_neg hk5, if_pos hk6]) (y_or rfl rfl rfl)) ?_
      refine sgo ?_
      refine T_cond rfl ?_ ?_ <;> intro h105
      · skip
        have e1 : chX x = 2 := chX_hd (by rw [hre, if_pos (by rw [hr, h105]; rfl)]) (by decide)
        refine tx ?_
        refine sr 1 ?_
        refine sgo ?_
        refine tr1 hRb fun w hM => ?_
        first | exact ⟨by rw [e1], hM.below⟩ | exact ⟨by rw [hch, ← hp2, hl.end (by omega)]; rfl, hM.below⟩
      refine kgx ?_
      refine s1 (yF fa50_3) ?_
      refine s1 (yL 1 Tryz.underlying3) ?_
      refine s1 (yF fa50_2) ?_
      refine s1 (yL 1 Tryz.underlying3) ?_
      refine sr 1 ?_
      refine sgo ?_
      refine T_cond rfl ?_ ?_ <;> intro h110
      · skip
        have e1 : chX x = 5 := chX_hd (by rw [hre, if_neg (by rw [hr, h105]; simp), if_pos (by rw [hr, h110]; rfl)]) (by decide)
        refine tx ?_
        refine sr 1 ?_
        refine sgo ?_
        refine tr1 hRb fun w hM => ?_
        first | exact ⟨by rw [e1], hM.below⟩ | exact ⟨by rw [hch, ← hp2, hl.end (by omega)]; rfl, hM.below⟩
      have hla := hd_late hre (by rw [hr, h105]; rfl) (by rw [hr, h110]; rfl)
      refine kgs ?_
      refine tx ?_
      refine s1 (yF fa50_0) ?_
      refine s1 (yL 1 Tryz.underlying3) ?_
      refine s1 (y_call rfl rfl rfl cf188 (fun _ w _ => named_any _ w)) ?_
      refine sr 1 ?_
      refine sg rfl (yF fa50_4) ?_
      refine sg rfl (yL 1 Tryz.underlying9) ?_
      refine sg rfl (y_call rfl rfl rfl cf24 (fun _ w _ => IsName_any _ w)) ?_
      refine sg rfl (y_not rfl rfl) ?_
      refine s1 (y_and rfl rfl rfl) ?_
      refine sgo ?_
      refine T_cond rfl ?_ ?_ <;> intro h119
      · skip
        have e1 : chX x = 3 := chX_hd (by rw [hla, if_pos h119]) (by decide)
        refine tx ?_
        refine sr 1 ?_
        refine sgo ?_
        refine tr1 hRb fun w hM => ?_
        first | exact ⟨by rw [e1], hM.below⟩ | exact ⟨by rw [hch, ← hp2, hl.end (by omega)]; rfl, hM.below⟩
      rw [if_neg (by rw [h119]; simp)] at hla
      refine kgs ?_
      refine tx ?_
      refine s1 (yF fa50_0) ?_
      refine s1 (yL 1 Tryz.underlying3) ?_
      refine s1 (y_call rfl rfl rfl cf189 (fun _ w _ => worded_any _ w)) ?_
      refine sgo ?_
      refine T_cond rfl ?_ ?_ <;> intro h122
      · skip
        have hw : wrdB x.op = true := h122
        rw [if_pos hw] at hla
        refine tx ?_
        refine s1 (yF fa50_5) ?_
        refine s1 (yL 1 Tryz.underlying9) ?_
        refine s1 (y_call rfl rfl rfl cf190 (fun _ w _ => checkText_any _ w)) ?_
        refine sr 1 ?_
        refine sgx ?_
        refine sr 2 ?_
        refine sgo ?_
        refine T_cond rfl ?_ ?_ <;> intro h127
        · skip
          have hn0 : txtNo x.tx ≠ 0 := by simpa using h127
          have e1 : chX x = txtNo x.tx := chX_hd hla hn0
          refine tx ?_
          refine sr 2 ?_
          refine sgo ?_
          refine tr1 hRb fun w hM => ?_
          first | exact ⟨by rw [e1], hM.below⟩ | exact ⟨by rw [hch, ← hp2, hl.end (by omega)]; rfl, hM.below⟩
        have hn0 : txtNo x.tx = 0 := by simpa using h127
        have hch := chX_kids (hla.trans hn0)
        refine kgs ?_
        refine tx ?_
        refine s1 (yF fa50_1) ?_
        refine s1 (yL 1 Tryz.underlying48) ?_
        refine s1 (y_len_slice rfl rfl Tryz.underlying48) ?_
        refine sr 1 ?_
        refine sgo ?_
        refine T_block ?_
        refine lK1 (kf := [(2, 2), (7, 8), (132, 141)]) (kl := [(2, 2), (7, 8), (132, 141)]) (fun (i : Nat) => [(132, true, .int .i64 (i : Int))]) (fun (i : Nat) => []) (fun (i : Nat) => i ≤ x.q ∧ chkL (chdNo txtNo nameOk) ((x.kids.drop i).map SC.says) = chkL (chdNo txtNo nameOk) (x.kids.map SC.says)) (fun (i : Nat) => x.q - i) 0 ?_ ?_ ?_ ?_
        · exact ⟨by omega, rfl⟩
        · exact ⟨rfl, trivial⟩
        · exact trivial
        rintro i ⟨hp1, hp2⟩
        refine tx ?_
        refine sr 1 ?_
        refine sgs ?_
        refine T_cond rfl ?_ ?_ <;> intro h133
        · try simp only [nrm] at h133
          obtain ⟨k, hx1, hx2⟩ := hl.at (i := i) (by omega)
          rw [hx2, List.map_cons, chkL] at hp2
          refine kgs ?_
          refine T_block ?_
          refine tx ?_
          refine s1 (y_indexAddr rfl rfl rfl Tryz.underlying48 sz50 (fun hg => hl.isSome (by omega)) (fun _ => by omega)) ?_
          refine s1 (y_loadT rfl rfl hl (fun _ => rfl) (fun _ => hx1) Tryz.underlying50 rfl sz50) ?_
          refine S_alloc 7 7 rfl rfl rfl rfl z50 ?_
          intro b7
          refine S_store 7 rfl rfl rfl rfl rfl rfl sz50 rfl rfl ?_
          refine sgx ?_
          refine s1 (yA 7 rfl Tryz.underlying50 sz50) ?_
          refine s1 (y_call rfl rfl rfl cf94 (fun _ w1 hM => ih k (mem_at hx1) w1 ((hk k (mem_at hx1)).lift hM.below))) ?_
          refine sr 1 ?_
          refine sgx ?_
          refine sr 2 ?_
          refine sgo ?_
          refine T_cond rfl ?_ ?_ <;> intro h139
          · skip
            have hn1 : chX k ≠ 0 := by simpa using h139
            rw [if_pos hn1] at hp2
            have e1 : chX x = chX k := by rw [hch, ← hp2]
            refine tx ?_
            refine sr 2 ?_
            refine sgo ?_
            refine tr1 hRb fun w hM => ?_
            first | exact ⟨by rw [e1], hM.below⟩ | exact ⟨by rw [hch, ← hp2, hl.end (by omega)]; rfl, hM.below⟩
          have hn1 : chX k = 0 := by simpa using h139
          rw [if_neg (by rw [show chkP (chdNo txtNo nameOk) k.says = chX k from rfl, hn1]; simp)] at hp2
          refine kgr ?_
          refine s1 (y_bin rfl rfl rfl (fun hg => b_add (by omega))) ?_
          refine sr 1 ?_
          refine S_nil (nK1 (kf := [(2, 2), (7, 8), (132, 141)]) (kl := [(2, 2), (7, 8), (132, 141)]) (i + 1) ?_ ?_ ?_ ?_)
          · omega
          · exact ⟨by omega, hp2⟩
          · exact ⟨rfl, trivial⟩
          · exact trivial
        try simp only [nrm] at h133
        refine egx ?_
        refine sr 1 ?_
        refine sgo ?_
        refine tr1 hRb fun w hM => ?_
        first | exact ⟨by rw [e1], hM.below⟩ | exact ⟨by rw [hch, ← hp2, hl.end (by omega)]; rfl, hM.below⟩
      have hw : wrdB x.op = false := h122
      rw [if_neg (by rw [hw]; simp)] at hla
      have hch := chX_kids hla
      refine kgs ?_
      refine tx ?_
      refine s1 (yF fa50_1) ?_
      refine s1 (yL 1 Tryz.underlying48) ?_
      refine s1 (y_len_slice rfl rfl Tryz.underlying48) ?_
      refine sr 1 ?_
      refine sgo ?_
      refine T_block ?_
      refine lK1 (kf := [(2, 2), (7, 8), (132, 141)]) (kl := [(2, 2), (7, 8), (132, 141)]) (fun (i : Nat) => [(132, true, .int .i64 (i : Int))]) (fun (i : Nat) => []) (fun (i : Nat) => i ≤ x.q ∧ chkL (chdNo txtNo nameOk) ((x.kids.drop i).map SC.says) = chkL (chdNo txtNo nameOk) (x.kids.map SC.says)) (fun (i : Nat) => x.q - i) 0 ?_ ?_ ?_ ?_
      · exact ⟨by omega, rfl⟩
      · exact ⟨rfl, trivial⟩
      · exact trivial
      rintro i ⟨hp1, hp2⟩
      refine tx ?_
      refine sr 1 ?_
      refine sgs ?_
      refine T_cond rfl ?_ ?_ <;> intro h133
      · try simp only [nrm] at h133
        obtain ⟨k, hx1, hx2⟩ := hl.at (i := i) (by omega)
        rw [hx2, List.map_cons, chkL] at hp2
        refine kgs ?_
        refine T_block ?_
        refine tx ?_
        refine s1 (y_indexAddr rfl rfl rfl Tryz.underlying48 sz50 (fun hg => hl.isSome (by omega)) (fun _ => by omega)) ?_
        refine s1 (y_loadT rfl rfl hl (fun _ => rfl) (fun _ => hx1) Tryz.underlying50 rfl sz50) ?_
        refine S_alloc 7 7 rfl rfl rfl rfl z50 ?_
        intro b7
        refine S_store 7 rfl rfl rfl rfl rfl rfl sz50 rfl rfl ?_
        refine sgx ?_
        refine s1 (yA 7 rfl Tryz.underlying50 sz50) ?_
        refine s1 (y_call rfl rfl rfl cf94 (fun _ w1 hM => ih k (mem_at hx1) w1 ((hk k (mem_at hx1)).lift hM.below))) ?_
        refine sr 1 ?_
        refine sgx ?_
        refine sr 2 ?_
        refine sgo ?_
        refine T_cond rfl ?_ ?_ <;> intro h139
        · skip
          have hn1 : chX k ≠ 0 := by simpa using h139
          rw [if_pos hn1] at hp2
          have e1 : chX x = chX k := by rw [hch, ← hp2]
          refine tx ?_
          refine sr 2 ?_
          refine sgo ?_
          refine tr1 hRb fun w hM => ?_
          first | exact ⟨by rw [e1], hM.below⟩ | exact ⟨by rw [hch, ← hp2, hl.end (by omega)]; rfl, hM.below⟩
        have hn1 : chX k = 0 := by simpa using h139
        rw [if_neg (by rw [show chkP (chdNo txtNo nameOk) k.says = chX k from rfl, hn1]; simp)] at hp2
        refine kgr ?_
        refine s1 (y_bin rfl rfl rfl (fun hg => b_add (by omega))) ?_
        refine sr 1 ?_
        refine S_nil (nK1 (kf := [(2, 2), (7, 8), (132, 141)]) (kl := [(2, 2), (7, 8), (132, 141)]) (i + 1) ?_ ?_ ?_ ?_)
        · omega
        · exact ⟨by omega, hp2⟩
        · exact ⟨rfl, trivial⟩
        · exact trivial
      try simp only [nrm] at h133
      refine egx ?_
      refine sr 1 ?_
      refine sgo ?_
      refine tr1 hRb fun w hM => ?_
      first | exact ⟨by rw [e1], hM.below⟩ | exact ⟨by rw [hch, ← hp2, hl.end (by omega)]; rfl, hM.below⟩
    have hk6 : ¬ x.op = 6 := by simpa using h92
    refine kgs ?_
    refine tx ?_
    refine s1 (yF fa50_2) ?_
    refine s1 (yL 1 Tryz.underlying3) ?_
    refine sr 2 ?_
    refine s1 (y_call rfl rfl rfl cf103 (fun _ w _ => fout_any _ _ _ w)) ?_
    refine sr 1 ?_
    refine sg rfl (yF fa50_3) ?_
    refine sg rfl (yL 1 Tryz.underlying3) ?_
    refine sg rfl (y_move rfl rfl) ?_
    refine sg rfl (y_move rfl rfl) ?_
    refine sg rfl (y_call rfl rfl rfl cf103 (fun _ w _ => fout_any _ _ _ w)) ?_
    refine s1 (y_as (v' := .bool (r1B x)) (by rw [r1B, loR, hiR, if_neg hk5, if_neg hk5, if_neg hk6]) (y_or rfl rfl rfl)) ?_
    refine sgo ?_
    refine T_cond rfl ?_ ?_ <;> intro h105
    · skip
      have e1 : chX x = 2 := chX_hd (by rw [hre, if_pos (by rw [hr, h105]; rfl)]) (by decide)
      refine tx ?_
      refine sr 1 ?_
      refine sgo ?_
      refine tr1 hRb fun w hM => ?_
      first | exact ⟨by rw [e1], hM.below⟩ | exact ⟨by rw [hch, ← hp2, hl.end (by omega)]; rfl, hM.below⟩
    refine kgx ?_
    refine s1 (yF fa50_3) ?_
    refine s1 (yL 1 Tryz.underlying3) ?_
    refine s1 (yF fa50_2) ?_
    refine s1 (yL 1 Tryz.underlying3) ?_
    refine sr 1 ?_
    refine sgo ?_
    refine T_cond rfl ?_ ?_ <;> intro h110
    · skip
      have e1 : chX x = 5 := chX_hd (by rw [hre, if_neg (by rw [hr, h105]; simp), if_pos (by rw [hr, h110]; rfl)]) (by decide)
      refine tx ?_
      refine sr 1 ?_
      refine sgo ?_
      refine tr1 hRb fun w hM => ?_
      first | exact ⟨by rw [e1], hM.below⟩ | exact ⟨by rw [hch, ← hp2, hl.end (by omega)]; rfl, hM.below⟩
    have hla := hd_late hre (by rw [hr, h105]; rfl) (by rw [hr, h110]; rfl)
    refine kgs ?_
    refine tx ?_
    refine s1 (yF fa50_0) ?_
    refine s1 (yL 1 Tryz.underlying3) ?_
    refine s1 (y_call rfl rfl rfl cf188 (fun _ w _ => named_any _ w)) ?_
    refine sr 1 ?_
    refine sg rfl (yF fa50_4) ?_
    refine sg rfl (yL 1 Tryz.underlying9) ?_
    refine sg rfl (y_call rfl rfl rfl cf24 (fun _ w _ => IsName_any _ w)) ?_
    refine sg rfl (y_not rfl rfl) ?_
    refine s1 (y_and rfl rfl rfl) ?_
    refine sgo ?_
    refine T_cond rfl ?_ ?_ <;> intro h119
    · skip
      have e1 : chX x = 3 := chX_hd (by rw [hla, if_pos h119]) (by decide)
      refine tx ?_
      refine sr 1 ?_
      refine sgo ?_
      refine tr1 hRb fun w hM => ?_
      first | exact ⟨by rw [e1], hM.below⟩ | exact ⟨by rw [hch, ← hp2, hl.end (by omega)]; rfl, hM.below⟩
    rw [if_neg (by rw [h119]; simp)] at hla
    refine kgs ?_
    refine tx ?_
    refine s1 (yF fa50_0) ?_
    refine s1 (yL 1 Tryz.underlying3) ?_
    refine s1 (y_call rfl rfl rfl cf189 (fun _ w _ => worded_any _ w)) ?_
    refine sgo ?_
    refine T_cond rfl ?_ ?_ <;> intro h122
    · skip
      have hw : wrdB x.op = true := h122
      rw [if_pos hw] at hla
      refine tx ?_
      refine s1 (yF fa50_5) ?_
      refine s1 (yL 1 Tryz.underlying9) ?_
      refine s1 (y_call rfl rfl rfl cf190 (fun _ w _ => checkText_any _ w)) ?_
      refine sr 1 ?_
      refine sgx ?_
      refine sr 2 ?_
      refine sgo ?_
      refine T_cond rfl ?_ ?_ <;> intro h127
      · skip
        have hn0 : txtNo x.tx ≠ 0 := by simpa using h127
        have e1 : chX x = txtNo x.tx := chX_hd hla hn0
        refine tx ?_
        refine sr 2 ?_
        refine sgo ?_
        refine tr1 hRb fun w hM => ?_
        first | exact ⟨by rw [e1], hM.below⟩ | exact ⟨by rw [hch, ← hp2, hl.end (by omega)]; rfl, hM.below⟩
      have hn0 : txtNo x.tx = 0 := by simpa using h127
      have hch := chX_kids (hla.trans hn0)
      refine kgs ?_
      refine tx ?_
      refine s1 (yF fa50_1) ?_
      refine s1 (yL 1 Tryz.underlying48) ?_
      refine s1 (y_len_slice rfl rfl Tryz.underlying48) ?_
      refine sr 1 ?_
      refine sgo ?_
      refine T_block ?_
      refine lK1 (kf := [(2, 2), (7, 8), (132, 141)]) (kl := [(2, 2), (7, 8), (132, 141)]) (fun (i : Nat) => [(132, true, .int .i64 (i : Int))]) (fun (i : Nat) => []) (fun (i : Nat) => i ≤ x.q ∧ chkL (chdNo txtNo nameOk) ((x.kids.drop i).map SC.says) = chkL (chdNo txtNo nameOk) (x.kids.map SC.says)) (fun (i : Nat) => x.q - i) 0 ?_ ?_ ?_ ?_
      · exact ⟨by omega, rfl⟩
      · exact ⟨rfl, trivial⟩
      · exact trivial
      rintro i ⟨hp1, hp2⟩
      refine tx ?_
      refine sr 1 ?_
      refine sgs ?_
      refine T_cond rfl ?_ ?_ <;> intro h133
      · try simp only [nrm] at h133
        obtain ⟨k, hx1, hx2⟩ := hl.at (i := i) (by omega)
        rw [hx2, List.map_cons, chkL] at hp2
        refine kgs ?_
        refine T_block ?_
        refine tx ?_
        refine s1 (y_indexAddr rfl rfl rfl Tryz.underlying48 sz50 (fun hg => hl.isSome (by omega)) (fun _ => by omega)) ?_
        refine s1 (y_loadT rfl rfl hl (fun _ => rfl) (fun _ => hx1) Tryz.underlying50 rfl sz50) ?_
        refine S_alloc 7 7 rfl rfl rfl rfl z50 ?_
        intro b7
        refine S_store 7 rfl rfl rfl rfl rfl rfl sz50 rfl rfl ?_
        refine sgx ?_
        refine s1 (yA 7 rfl Tryz.underlying50 sz50) ?_
        refine s1 (y_call rfl rfl rfl cf94 (fun _ w1 hM => ih k (mem_at hx1) w1 ((hk k (mem_at hx1)).lift hM.below))) ?_
        refine sr 1 ?_
        refine sgx ?_
        refine sr 2 ?_
        refine sgo ?_
        refine T_cond rfl ?_ ?_ <;> intro h139
        · skip
          have hn1 : chX k ≠ 0 := by simpa using h139
          rw [if_pos hn1] at hp2
          have e1 : chX x = chX k := by rw [hch, ← hp2]
          refine tx ?_
          refine sr 2 ?_
          refine sgo ?_
          refine tr1 hRb fun w hM => ?_
          first | exact ⟨by rw [e1], hM.below⟩ | exact ⟨by rw [hch, ← hp2, hl.end (by omega)]; rfl, hM.below⟩
        have hn1 : chX k = 0 := by simpa using h139
        rw [if_neg (by rw [show chkP (chdNo txtNo nameOk) k.says = chX k from rfl, hn1]; simp)] at hp2
        refine kgr ?_
        refine s1 (y_bin rfl rfl rfl (fun hg => b_add (by omega))) ?_
        refine sr 1 ?_
        refine S_nil (nK1 (kf := [(2, 2), (7, 8), (132, 141)]) (kl := [(2, 2), (7, 8), (132, 141)]) (i + 1) ?_ ?_ ?_ ?_)
        · omega
        · exact ⟨by omega, hp2⟩
        · exact ⟨rfl, trivial⟩
        · exact trivial
      try simp only [nrm] at h133
      refine egx ?_
      refine sr 1 ?_
      refine sgo ?_
      refine tr1 hRb fun w hM => ?_
      first | exact ⟨by rw [e1], hM.below⟩ | exact ⟨by rw [hch, ← hp2, hl.end (by omega)]; rfl, hM.below⟩
    have hw : wrdB x.op = false := h122
    rw [if_neg (by rw [hw]; simp)] at hla
    have hch := chX_kids hla
    refine kgs ?_
    refine tx ?_
    refine s1 (yF fa50_1) ?_
    refine s1 (yL 1 Tryz.underlying48) ?_
    refine s1 (y_len_slice rfl rfl Tryz.underlying48) ?_
    refine sr 1 ?_
    refine sgo ?_
    refine T_block ?_
    refine lK1 (kf := [(2, 2), (7, 8), (132, 141)]) (kl := [(2, 2), (7, 8), (132, 141)]) (fun (i : Nat) => [(132, true, .int .i64 (i : Int))]) (fun (i : Nat) => []) (fun (i : Nat) => i ≤ x.q ∧ chkL (chdNo txtNo nameOk) ((x.kids.drop i).map SC.says) = chkL (chdNo txtNo nameOk) (x.kids.map SC.says)) (fun (i : Nat) => x.q - i) 0 ?_ ?_ ?_ ?_
    · exact ⟨by omega, rfl⟩
    · exact ⟨rfl, trivial⟩
    · exact trivial
    rintro i ⟨hp1, hp2⟩
    refine tx ?_
    refine sr 1 ?_
    refine sgs ?_
    refine T_cond rfl ?_ ?_ <;> intro h133
    · try simp only [nrm] at h133
      obtain ⟨k, hx1, hx2⟩ := hl.at (i := i) (by omega)
      rw [hx2, List.map_cons, chkL] at hp2
      refine kgs ?_
      refine T_block ?_
      refine tx ?_
      refine s1 (y_indexAddr rfl rfl rfl Tryz.underlying48 sz50 (fun hg => hl.isSome (by omega)) (fun _ => by omega)) ?_
      refine s1 (y_loadT rfl rfl hl (fun _ => rfl) (fun _ => hx1) Tryz.underlying50 rfl sz50) ?_
      refine S_alloc 7 7 rfl rfl rfl rfl z50 ?_
      intro b7
      refine S_store 7 rfl rfl rfl rfl rfl rfl sz50 rfl rfl ?_
      refine sgx ?_
      refine s1 (yA 7 rfl Tryz.underlying50 sz50) ?_
      refine s1 (y_call rfl rfl rfl cf94 (fun _ w1 hM => ih k (mem_at hx1) w1 ((hk k (mem_at hx1)).lift hM.below))) ?_
      refine sr 1 ?_
      refine sgx ?_
      refine sr 2 ?_
      refine sgo ?_
      refine T_cond rfl ?_ ?_ <;> intro h139
      · skip
        have hn1 : chX k ≠ 0 := by simpa using h139
        rw [if_pos hn1] at hp2
        have e1 : chX x = chX k := by rw [hch, ← hp2]
        refine tx ?_
        refine sr 2 ?_
        refine sgo ?_
        refine tr1 hRb fun w hM => ?_
        first | exact ⟨by rw [e1], hM.below⟩ | exact ⟨by rw [hch, ← hp2, hl.end (by omega)]; rfl, hM.below⟩
      have hn1 : chX k = 0 := by simpa using h139
      rw [if_neg (by rw [show chkP (chdNo txtNo nameOk) k.says = chX k from rfl, hn1]; simp)] at hp2
      refine kgr ?_
      refine s1 (y_bin rfl rfl rfl (fun hg => b_add (by omega))) ?_
      refine sr 1 ?_
      refine S_nil (nK1 (kf := [(2, 2), (7, 8), (132, 141)]) (kl := [(2, 2), (7, 8), (132, 141)]) (i + 1) ?_ ?_ ?_ ?_)
      · omega
      · exact ⟨by omega, hp2⟩
      · exact ⟨rfl, trivial⟩
      · exact trivial
    try simp only [nrm] at h133
    refine egx ?_
    refine sr 1 ?_
    refine sgo ?_
    refine tr1 hRb fun w hM => ?_
    first | exact ⟨by rw [e1], hM.below⟩ | exact ⟨by rw [hch, ← hp2, hl.end (by omega)]; rfl, hM.below⟩
  have hr : rngB x.op = false := h87
  have hla := hd_late hre (by rw [hr]; rfl) (by rw [hr]; rfl)
  refine kgs ?_
  refine tx ?_
  refine s1 (yF fa50_0) ?_
  refine s1 (yL 1 Tryz.underlying3) ?_
  refine s1 (y_call rfl rfl rfl cf188 (fun _ w _ => named_any _ w)) ?_
  refine sr 1 ?_
  refine sg rfl (yF fa50_4) ?_
  refine sg rfl (yL 1 Tryz.underlying9) ?_
  refine sg rfl (y_call rfl rfl rfl cf24 (fun _ w _ => IsName_any _ w)) ?_
  refine sg rfl (y_not rfl rfl) ?_
  refine s1 (y_and rfl rfl rfl) ?_
  refine sgo ?_
  refine T_cond rfl ?_ ?_ <;> intro h119
  · skip
    have e1 : chX x = 3 := chX_hd (by rw [hla, if_pos h119]) (by decide)
    refine tx ?_
    refine sr 1 ?_
    refine sgo ?_
    refine tr1 hRb fun w hM => ?_
    first | exact ⟨by rw [e1], hM.below⟩ | exact ⟨by rw [hch, ← hp2, hl.end (by omega)]; rfl, hM.below⟩
  rw [if_neg (by rw [h119]; simp)] at hla
  refine kgs ?_
  refine tx ?_
  refine s1 (yF fa50_0) ?_
  refine s1 (yL 1 Tryz.underlying3) ?_
  refine s1 (y_call rfl rfl rfl cf189 (fun _ w _ => worded_any _ w)) ?_
  refine sgo ?_
  refine T_cond rfl ?_ ?_ <;> intro h122
  · skip
    have hw : wrdB x.op = true := h122
    rw [if_pos hw] at hla
    refine tx ?_
    refine s1 (yF fa50_5) ?_
    refine s1 (yL 1 Tryz.underlying9) ?_
    refine s1 (y_call rfl rfl rfl cf190 (fun _ w _ => checkText_any _ w)) ?_
    refine sr 1 ?_
    refine sgx ?_
    refine sr 2 ?_
    refine sgo ?_
    refine T_cond rfl ?_ ?_ <;> intro h127
    · skip
      have hn0 : txtNo x.tx ≠ 0 := by simpa using h127
      have e1 : chX x = txtNo x.tx := chX_hd hla hn0
      refine tx ?_
      refine sr 2 ?_
      refine sgo ?_
      refine tr1 hRb fun w hM => ?_
      first | exact ⟨by rw [e1], hM.below⟩ | exact ⟨by rw [hch, ← hp2, hl.end (by omega)]; rfl, hM.below⟩
    have hn0 : txtNo x.tx = 0 := by simpa using h127
    have hch := chX_kids (hla.trans hn0)
    refine kgs ?_
    refine tx ?_
    refine s1 (yF fa50_1) ?_
    refine s1 (yL 1 Tryz.underlying48) ?_
    refine s1 (y_len_slice rfl rfl Tryz.underlying48) ?_
    refine sr 1 ?_
    refine sgo ?_
    refine T_block ?_
    refine lK1 (kf := [(2, 2), (7, 8), (132, 141)]) (kl := [(2, 2), (7, 8), (132, 141)]) (fun (i : Nat) => [(132, true, .int .i64 (i : Int))]) (fun (i : Nat) => []) (fun (i : Nat) => i ≤ x.q ∧ chkL (chdNo txtNo nameOk) ((x.kids.drop i).map SC.says) = chkL (chdNo txtNo nameOk) (x.kids.map SC.says)) (fun (i : Nat) => x.q - i) 0 ?_ ?_ ?_ ?_
    · exact ⟨by omega, rfl⟩
    · exact ⟨rfl, trivial⟩
    · exact trivial
    rintro i ⟨hp1, hp2⟩
    refine tx ?_
    refine sr 1 ?_
    refine sgs ?_
    refine T_cond rfl ?_ ?_ <;> intro h133
    · try simp only [nrm] at h133
      obtain ⟨k, hx1, hx2⟩ := hl.at (i := i) (by omega)
      rw [hx2, List.map_cons, chkL] at hp2
      refine kgs ?_
      refine T_block ?_
      refine tx ?_
      refine s1 (y_indexAddr rfl rfl rfl Tryz.underlying48 sz50 (fun hg => hl.isSome (by omega)) (fun _ => by omega)) ?_
      refine s1 (y_loadT rfl rfl hl (fun _ => rfl) (fun _ => hx1) Tryz.underlying50 rfl sz50) ?_
      refine S_alloc 7 7 rfl rfl rfl rfl z50 ?_
      intro b7
      refine S_store 7 rfl rfl rfl rfl rfl rfl sz50 rfl rfl ?_
      refine sgx ?_
      refine s1 (yA 7 rfl Tryz.underlying50 sz50) ?_
      refine s1 (y_call rfl rfl rfl cf94 (fun _ w1 hM => ih k (mem_at hx1) w1 ((hk k (mem_at hx1)).lift hM.below))) ?_
      refine sr 1 ?_
      refine sgx ?_
      refine sr 2 ?_
      refine sgo ?_
      refine T_cond rfl ?_ ?_ <;> intro h139
      · skip
        have hn1 : chX k ≠ 0 := by simpa using h139
        rw [if_pos hn1] at hp2
        have e1 : chX x = chX k := by rw [hch, ← hp2]
        refine tx ?_
        refine sr 2 ?_
        refine sgo ?_
        refine tr1 hRb fun w hM => ?_
        first | exact ⟨by rw [e1], hM.below⟩ | exact ⟨by rw [hch, ← hp2, hl.end (by omega)]; rfl, hM.below⟩
      have hn1 : chX k = 0 := by simpa using h139
      rw [if_neg (by rw [show chkP (chdNo txtNo nameOk) k.says = chX k from rfl, hn1]; simp)] at hp2
      refine kgr ?_
      refine s1 (y_bin rfl rfl rfl (fun hg => b_add (by omega))) ?_
      refine sr 1 ?_
      refine S_nil (nK1 (kf := [(2, 2), (7, 8), (132, 141)]) (kl := [(2, 2), (7, 8), (132, 141)]) (i + 1) ?_ ?_ ?_ ?_)
      · omega
      · exact ⟨by omega, hp2⟩
      · exact ⟨rfl, trivial⟩
      · exact trivial
    try simp only [nrm] at h133
    refine egx ?_
    refine sr 1 ?_
    refine sgo ?_
    refine tr1 hRb fun w hM => ?_
    first | exact ⟨by rw [e1], hM.below⟩ | exact ⟨by rw [hch, ← hp2, hl.end (by omega)]; rfl, hM.below⟩
  have hw : wrdB x.op = false := h122
  rw [if_neg (by rw [hw]; simp)] at hla
  have hch := chX_kids hla
  refine kgs ?_
  refine tx ?_
  refine s1 (yF fa50_1) ?_
  refine s1 (yL 1 Tryz.underlying48) ?_
  refine s1 (y_len_slice rfl rfl Tryz.underlying48) ?_
  refine sr 1 ?_
  refine sgo ?_
  refine T_block ?_
  refine lK1 (kf := [(2, 2), (7, 8), (132, 141)]) (kl := [(2, 2), (7, 8), (132, 141)]) (fun (i : Nat) => [(132, true, .int .i64 (i : Int))]) (fun (i : Nat) => []) (fun (i : Nat) => i ≤ x.q ∧ chkL (chdNo txtNo nameOk) ((x.kids.drop i).map SC.says) = chkL (chdNo txtNo nameOk) (x.kids.map SC.says)) (fun (i : Nat) => x.q - i) 0 ?_ ?_ ?_ ?_
  · exact ⟨by omega, rfl⟩
  · exact ⟨rfl, trivial⟩
  · exact trivial
  rintro i ⟨hp1, hp2⟩
  refine tx ?_
  refine sr 1 ?_
  refine sgs ?_
  refine T_cond rfl ?_ ?_ <;> intro h133
  · try simp only [nrm] at h133
    obtain ⟨k, hx1, hx2⟩ := hl.at (i := i) (by omega)
    rw [hx2, List.map_cons, chkL] at hp2
    refine kgs ?_
    refine T_block ?_
    refine tx ?_
    refine s1 (y_indexAddr rfl rfl rfl Tryz.underlying48 sz50 (fun hg => hl.isSome (by omega)) (fun _ => by omega)) ?_
    refine s1 (y_loadT rfl rfl hl (fun _ => rfl) (fun _ => hx1) Tryz.underlying50 rfl sz50) ?_
    refine S_alloc 7 7 rfl rfl rfl rfl z50 ?_
    intro b7
    refine S_store 7 rfl rfl rfl rfl rfl rfl sz50 rfl rfl ?_
    refine sgx ?_
    refine s1 (yA 7 rfl Tryz.underlying50 sz50) ?_
    refine s1 (y_call rfl rfl rfl cf94 (fun _ w1 hM => ih k (mem_at hx1) w1 ((hk k (mem_at hx1)).lift hM.below))) ?_
    refine sr 1 ?_
    refine sgx ?_
    refine sr 2 ?_
    refine sgo ?_
    refine T_cond rfl ?_ ?_ <;> intro h139
    · skip
      have hn1 : chX k ≠ 0 := by simpa using h139
      rw [if_pos hn1] at hp2
      have e1 : chX x = chX k := by rw [hch, ← hp2]
      refine tx ?_
      refine sr 2 ?_
      refine sgo ?_
      refine tr1 hRb fun w hM => ?_
      first | exact ⟨by rw [e1], hM.below⟩ | exact ⟨by rw [hch, ← hp2, hl.end (by omega)]; rfl, hM.below⟩
    have hn1 : chX k = 0 := by simpa using h139
    rw [if_neg (by rw [show chkP (chdNo txtNo nameOk) k.says = chX k from rfl, hn1]; simp)] at hp2
    refine kgr ?_
    refine s1 (y_bin rfl rfl rfl (fun hg => b_add (by omega))) ?_
    refine sr 1 ?_
    refine S_nil (nK1 (kf := [(2, 2), (7, 8), (132, 141)]) (kl := [(2, 2), (7, 8), (132, 141)]) (i + 1) ?_ ?_ ?_ ?_)
    · omega
    · exact ⟨by omega, hp2⟩
    · exact ⟨rfl, trivial⟩
    · exact trivial
  try simp only [nrm] at h133
  refine egx ?_
  refine sr 1 ?_
  refine sgo ?_
  refine tr1 hRb fun w hM => ?_
  first | exact ⟨by rw [e1], hM.below⟩ | exact ⟨by rw [hch, ← hp2, hl.end (by omega)]; rfl, hM.below⟩
theorem checkOne_any (x : SC) : OneAt x := SC.ind (Q := OneAt) one_step x
/-- the fault of a condition -/
def condNo (x : SC) : Int := if deepP 20 x.says = true then 13 else if 100 < sizeP x.says 100 then 4 else chX x
theorem CheckCond_any (x : SC) (w : World) (hok : x.Ok w) :
    Calls Tryz.prog 44 #[x.val] w fun e w' => e = .returned (.int .i64 (condNo x)) ∧ Below w.heap.size w w' := by
  refine enter_args (args := [.agg #[.int .i64 x.op, .slice x.ad x.q x.c, .int .i64 x.lo, .int .i64 x.hi, str x.nm, str x.tx]]) (F := _) Tryz.func44 rfl Tryz.ntmps44 rfl rfl ?_
  intro Rb hRb hRn
  refine tx ?_
  refine S_box 1 1 rfl rfl rfl rfl rfl ?_
  intro b1
  refine sr 1 ?_
  refine sgs ?_
  refine tx ?_
  refine s1 (yA 1 rfl Tryz.underlying50 sz50) ?_
  refine s1 (y_call rfl rfl rfl cf92 (fun _ w1 hM => tooDeep_any 20 (by decide) x w1 (hok.lift hM.below))) ?_
  refine sgo ?_
  refine T_cond rfl ?_ ?_ <;> intro h4
  · skip
    refine tx ?_
    refine sr 1 ?_
    refine sgo ?_
    refine tr1 hRb fun w hM => ?_
    exact ⟨by rw [condNo, if_pos h4], hM.below⟩
  refine kgs ?_
  refine tx ?_
  refine s1 (yA 1 rfl Tryz.underlying50 sz50) ?_
  refine s1 (y_call rfl rfl rfl cf93 (fun _ w1 hM => size_any x 100 w1 (by decide) (by decide) (hok.lift hM.below))) ?_
  refine sr 1 ?_
  refine sgo ?_
  refine T_cond rfl ?_ ?_ <;> intro h7
  · skip
    refine tx ?_
    refine sr 1 ?_
    refine sgo ?_
    refine tr1 hRb fun w hM => ?_
    exact ⟨by rw [condNo, if_neg (by rw [h4]; simp), if_pos (by simpa using h7)], hM.below⟩
  refine kgx ?_
  refine s1 (yA 1 rfl Tryz.underlying50 sz50) ?_
  refine s1 (y_call rfl rfl rfl cf94 (fun _ w1 hM => checkOne_any x w1 (hok.lift hM.below))) ?_
  refine sr 1 ?_
  refine sgo ?_
  refine tr1 hRb fun w hM => ?_
  exact ⟨by rw [condNo, if_neg (by rw [h4]; simp), if_neg (by simpa using h7)], hM.below⟩
end Go.Proofs.YtgbldojgbpgjbaaGreatDoor
end
section
namespace Go.Proofs.YtgbldojgbpgjbaaGreatDoor
set_option linter.unusedSimpArgs false
set_option linter.unusedVariables false
set_option maxRecDepth 20000
open Go.RowKit Go.Eng
section
variable (e : UInt8 → UInt8 → Bool)
def gm : List UInt8 → List UInt8 → Bool
  | [], [] => true
  | [], _ :: _ => false
  | a :: p, [] => decide (a = 42) && gm p []
  | a :: p, c :: r => if a = 42 then gm p (c :: r) || gm (a :: p) r else e a c && gm p r
termination_by p s => p.length + s.length
end
section
variable {e : UInt8 → UInt8 → Bool}
theorem gm_star {p s : List UInt8} : gm e (42 :: p) s = true ↔ ∃ m, m ≤ s.length ∧ gm e p (s.drop m) = true := by
  induction s with
  | nil =>
    rw [gm]
    simp only [decide_true, Bool.true_and, List.length_nil, List.drop_nil]
    exact ⟨fun h => ⟨0, Nat.le_refl _, h⟩, fun ⟨m, _, h⟩ => h⟩
  | cons c r ih =>
    rw [gm, if_pos rfl, Bool.or_eq_true, ih]
    constructor
    · rintro (h | ⟨m, h1, h2⟩)
      · exact ⟨0, Nat.zero_le _, h⟩
      · exact ⟨m + 1, by rw [List.length_cons]; omega, by rw [List.drop_succ_cons]; exact h2⟩
    · rintro ⟨m, h1, h2⟩
      cases m with
      | zero => exact .inl h2
      | succ m => exact .inr ⟨m, by rw [List.length_cons] at h1; omega, by rw [List.drop_succ_cons] at h2; exact h2⟩
theorem gm_lit {a c : UInt8} {p r : List UInt8} (h : a ≠ 42) : gm e (a :: p) (c :: r) = (e a c && gm e p r) := by rw [gm, if_neg h]
theorem gm_lit0 {a : UInt8} {p : List UInt8} (h : a ≠ 42) : gm e (a :: p) [] = false := by rw [gm, decide_eq_false h, Bool.false_and]
theorem gm_nil {s : List UInt8} : gm e [] s = decide (s = []) := by cases s <;> simp [gm]
/-! ### The table of all beginnings -/
/-! ### Back to the last star -/
/-- where the search stands: the last star at 'st' was tried from 'mk' on; the pattern from there to 'i' has no star -/
structure Tried (e : UInt8 → UInt8 → Bool) (p s : List UInt8) (i k : Nat) (st : Option Nat) (mk : Nat) : Prop where
  hi : i ≤ p.length
  hk : k ≤ s.length
  hst : ∀ j, st = some j → j < i ∧ k = mk + (i - j - 1) ∧ p.getD j 0 = 42 ∧ ∀ m, j < m → m < i → p.getD m 0 ≠ 42
  no : st = none → mk = 0
  eq : gm e p s = true ↔ gm e (p.drop i) (s.drop k) = true ∨ ∃ j, st = some j ∧ ∃ m, mk < m ∧ m ≤ s.length ∧ gm e (p.drop (j + 1)) (s.drop m) = true
theorem Tried.start (p s : List UInt8) : Tried e p s 0 0 none 0 := ⟨Nat.zero_le _, Nat.zero_le _, (fun j h => by cases h), (fun _ => rfl), by simp⟩
theorem drop_getD {p : List UInt8} {i : Nat} (h : i < p.length) : p.drop i = p.getD i 0 :: p.drop (i + 1) := by
  rw [List.drop_eq_getElem_cons h, List.getD_eq_getElem?_getD, List.getElem?_eq_getElem h]; rfl
/-- literals take as many bytes as they are -/
theorem gm_lits {p s : List UInt8} : ∀ (n i : Nat), i + n ≤ p.length → (∀ m, i ≤ m → m < i + n → p.getD m 0 ≠ 42) → gm e (p.drop i) s = true → n ≤ s.length ∧ gm e (p.drop (i + n)) (s.drop n) = true
  | 0, i, _, _, h => ⟨Nat.zero_le _, by simpa using h⟩
  | n + 1, i, hl, hn, h => by
    have ha := hn i (Nat.le_refl _) (by omega)
    rw [drop_getD (by omega)] at h
    cases s with
    | nil => rw [gm_lit0 ha] at h; cases h
    | cons c r =>
      rw [gm_lit ha, Bool.and_eq_true] at h
      obtain ⟨h1, h2⟩ := gm_lits (s := r) n (i + 1) (by omega) (fun m h1 h2 => hn m (by omega) (by omega)) h.2
      exact ⟨by rw [List.length_cons]; omega, by rw [List.drop_succ_cons, show i + (n + 1) = i + 1 + n by omega]; exact h2⟩
theorem Tried.later {p s : List UInt8} {i k mk j m : Nat} {st : Option Nat} (h : Tried e p s i k st mk) (hst : st = some j) (hm : mk < m) (hg : gm e (p.drop (j + 1)) (s.drop m) = true) : k < m + (i - j - 1) ∧ m + (i - j - 1) ≤ max m s.length ∧ gm e (p.drop i) (s.drop (m + (i - j - 1))) = true := by
  obtain ⟨h1, h2, h3, h4⟩ := h.hst j hst
  have hi := h.hi
  obtain ⟨g1, g2⟩ := gm_lits (i - j - 1) (j + 1) (by omega) (fun q h5 h6 => h4 q (by omega) (by omega)) hg
  rw [List.length_drop] at g1
  rw [List.drop_drop, show j + 1 + (i - j - 1) = i by omega] at g2
  exact ⟨by omega, by omega, g2⟩
theorem Tried.star {p s : List UInt8} {i k mk : Nat} {st : Option Nat} (h : Tried e p s i k st mk) (hi : i < p.length) (ha : p.getD i 0 = 42) : Tried e p s (i + 1) k (some i) k := by
  refine ⟨hi, h.hk, fun j hj => ?_, (fun hh => by cases hh), ?_⟩
  · cases hj
    exact ⟨by omega, by omega, ha, fun m h1 h2 => by omega⟩
  · have hk := h.hk
    rw [h.eq, drop_getD hi, ha, gm_star]
    constructor
    · rintro (⟨m, h1, h2⟩ | ⟨j, hj, m, h1, h2, h3⟩)
      · rw [List.length_drop] at h1
        rw [List.drop_drop] at h2
        by_cases hm : m = 0
        · subst hm; exact .inl (by simpa using h2)
        · exact .inr ⟨i, rfl, k + m, by omega, by omega, h2⟩
      · obtain ⟨l1, l2, l3⟩ := h.later hj h1 h3
        rw [drop_getD hi, ha, gm_star] at l3
        obtain ⟨q, q1, q2⟩ := l3
        rw [List.length_drop] at q1
        rw [List.drop_drop] at q2
        refine .inr ⟨i, rfl, m + (i - j - 1) + q, by omega, by omega, q2⟩
    · rintro (h1 | ⟨j, hj, m, h1, h2, h3⟩)
      · exact .inl ⟨0, Nat.zero_le _, by simpa using h1⟩
      · cases hj
        refine .inl ⟨m - k, by rw [List.length_drop]; omega, ?_⟩
        rw [List.drop_drop, show k + (m - k) = m by omega]; exact h3
theorem Tried.lit {p s : List UInt8} {i k mk : Nat} {st : Option Nat} (h : Tried e p s i k st mk) (hi : i < p.length) (hk : k < s.length) (ha : p.getD i 0 ≠ 42) (he : e (p.getD i 0) (s.getD k 0) = true) : Tried e p s (i + 1) (k + 1) st mk := by
  refine ⟨hi, hk, fun j hj => ?_, h.no, ?_⟩
  · obtain ⟨h1, h2, h3, h4⟩ := h.hst j hj
    exact ⟨by omega, by omega, h3, fun m m1 m2 => by
      by_cases hm : m = i
      · subst hm; exact ha
      · exact h4 m m1 (by omega)⟩
  · rw [h.eq, drop_getD hi, drop_getD hk, gm_lit ha, he, Bool.true_and]
theorem Tried.back {p s : List UInt8} {i k mk j : Nat} (h : Tried e p s i k (some j) mk) (hk : k < s.length) (hno : i < p.length → p.getD i 0 ≠ 42 ∧ e (p.getD i 0) (s.getD k 0) = false) : Tried e p s (j + 1) (mk + 1) (some j) (mk + 1) := by
  obtain ⟨h1, h2, h3, h4⟩ := h.hst j rfl
  have hi := h.hi
  refine ⟨by omega, by omega, fun q hq => ?_, (fun hh => by cases hh), ?_⟩
  · cases hq
    exact ⟨by omega, by omega, h3, fun m m1 m2 => by omega⟩
  · have hf : gm e (p.drop i) (s.drop k) = false := by
      by_cases hip : i < p.length
      · obtain ⟨a1, a2⟩ := hno hip
        rw [drop_getD hip, drop_getD hk, gm_lit a1, a2, Bool.false_and]
      · rw [List.drop_eq_nil_of_le (by omega), drop_getD hk, gm]
    rw [h.eq, hf]
    constructor
    · rintro (h5 | ⟨q, hq, m, m1, m2, m3⟩)
      · cases h5
      · cases hq
        by_cases hm : m = mk + 1
        · subst hm; exact .inl m3
        · exact .inr ⟨j, rfl, m, by omega, m2, m3⟩
    · rintro (h5 | ⟨q, hq, m, m1, m2, m3⟩)
      · exact .inr ⟨j, rfl, mk + 1, by omega, by omega, h5⟩
      · cases hq; exact .inr ⟨j, rfl, m, by omega, m2, m3⟩
theorem Tried.fail {p s : List UInt8} {i k mk : Nat} (h : Tried e p s i k none mk) (hk : k < s.length) (hno : i < p.length → p.getD i 0 ≠ 42 ∧ e (p.getD i 0) (s.getD k 0) = false) : gm e p s = false := by
  have hf : gm e (p.drop i) (s.drop k) = false := by
    by_cases hip : i < p.length
    · obtain ⟨a1, a2⟩ := hno hip
      rw [drop_getD hip, drop_getD hk, gm_lit a1, a2, Bool.false_and]
    · rw [List.drop_eq_nil_of_le (by omega), drop_getD hk, gm]
  rw [← Bool.not_eq_true, h.eq, hf]
  rintro (h | ⟨j, hj, _⟩)
  · cases h
  · cases hj
theorem gm_stars : ∀ p : List UInt8, gm e p [] = p.all fun c => decide (c = 42)
  | [] => by rw [gm]; rfl
  | a :: p => by rw [gm, gm_stars p, List.all_cons]
theorem Tried.done {p s : List UInt8} {i k mk : Nat} {st : Option Nat} (h : Tried e p s i k st mk) (hk : s.length ≤ k) : gm e p s = (p.drop i).all fun c => decide (c = 42) := by
  rw [← gm_stars (e := e), Bool.eq_iff_iff, h.eq, List.drop_eq_nil_of_le hk]
  constructor
  · rintro (h1 | ⟨j, hj, m, m1, m2, m3⟩)
    · exact h1
    · obtain ⟨l1, l2, l3⟩ := h.later hj m1 m3
      have := h.hk
      omega
  · exact .inl
end
end Go.Proofs.YtgbldojgbpgjbaaGreatDoor
end
section
namespace Go.Proofs.YtgbldojgbpgjbaaGreatDoor
set_option linter.unusedSimpArgs false
set_option linter.unusedVariables false
set_option maxRecDepth 20000
open Go.RowKit Go.Eng
def lowN (n : Nat) : Nat := if 65 ≤ n ∧ n ≤ 90 then n + 32 else n
def eqL (a b : UInt8) : Bool := decide (((lowN a.toNat : Nat) : Int) = ((lowN b.toNat : Nat) : Int))
theorem lower_any (n : Nat) (hn : n < 256) (w : World) :
    Calls Tryz.prog 59 #[.int .u8 (n : Int)] w fun e w' => e = .returned (.int .u8 ((lowN n : Nat) : Int)) ∧ Below w.heap.size w w' := by
  refine enter_args (args := [.int .u8 (n : Int)]) (F := _) Tryz.func59 rfl Tryz.ntmps59 rfl rfl ?_
  intro Rb hRb hRn
  refine tx ?_
  refine sr 1 ?_
  refine sgs ?_
  refine tx ?_
  refine sr 3 ?_
  refine sg rfl (y_move rfl rfl) ?_
  refine sg rfl (y_bin rfl rfl rfl (fun _ => b_leq)) ?_
  refine s1 (y_and rfl rfl rfl) ?_
  refine sgo ?_
  refine T_cond rfl ?_ ?_ <;> intro h8
  · skip
    have h8 : 65 ≤ n ∧ n ≤ 90 := by simp only [Bool.and_eq_true, decide_eq_true_eq] at h8; omega
    refine tx ?_
    refine sr 1 ?_
    refine s1 (y_bin rfl rfl rfl (fun hg => b_addw)) ?_
    refine s1 (y_bin rfl rfl rfl (fun hg => b_subw)) ?_
    refine sr 1 ?_
    refine sgo ?_
    refine tr1 hRb fun w hM => ?_
    exact ⟨by rw [lowN, if_pos h8]; congr 2; simp [IntKind.wrap, IntKind.signed, IntKind.bits]; omega, hM.below⟩
  have h8 : ¬ (65 ≤ n ∧ n ≤ 90) := by intro h; simp at h8; omega
  refine kgx ?_
  refine sr 2 ?_
  refine sgo ?_
  refine tr1 hRb fun w hM => ?_
  exact ⟨by rw [lowN, if_neg h8], hM.below⟩
def stI (st : Option Nat) : Int := st.elim (-1) fun j => (j : Int)
theorem Tried.mk_le {e : UInt8 → UInt8 → Bool} {p s : List UInt8} {i k mk : Nat} {st : Option Nat} (h : Tried e p s i k st mk) : mk ≤ k := by
  cases st with
  | none => rw [h.no rfl]; exact Nat.zero_le _
  | some j => have := (h.hst j rfl).2.1; omega
theorem lit_star {p : List UInt8} {i : Nat} (h : (decide (((i : Nat) : Int) < ((p.length : Nat) : Int)) && decide ((((p.getD i 0).toNat : Nat) : Int) = 42)) = true) : i < p.length ∧ p.getD i 0 = 42 := by
  simp only [Bool.and_eq_true, decide_eq_true_eq] at h
  exact ⟨by omega, UInt8.toNat_inj.1 (by show (p.getD i 0).toNat = 42; omega)⟩
theorem lit_no {p : List UInt8} {i : Nat} (h : (decide (((i : Nat) : Int) < ((p.length : Nat) : Int)) && decide ((((p.getD i 0).toNat : Nat) : Int) = 42)) = false) : i < p.length → p.getD i 0 ≠ 42 := by
  intro hi e
  rw [decide_eq_true (by omega), Bool.true_and, decide_eq_false_iff_not] at h
  exact h (by rw [e]; rfl)
theorem mu_star {a b c d e C : Nat} (h : a ≤ b) (h2 : d + 1 ≤ e) : (c - b) * C + (e - (d + 1)) < (c - a) * C + (e - d) := by
  have : (c - b) * C ≤ (c - a) * C := Nat.mul_le_mul_right C (by omega)
  omega
theorem mu_back {m c C x y : Nat} (h : m + 1 ≤ c) (hx : x < C) : (c - (m + 1)) * C + x < (c - m) * C + y := by
  have : (c - m) * C = (c - (m + 1)) * C + C := by rw [show c - m = (c - (m + 1)) + 1 by omega, Nat.succ_mul]
  omega
theorem dropWhile_nilF {p : UInt8 → Bool} : ∀ {l : List UInt8}, l.dropWhile p = [] → ∀ c ∈ l, p c = true
  | [], _ => fun c h => by cases h
  | a :: r, h => fun c hc => by
    rw [List.dropWhile_cons] at h
    split at h
    · rcases List.mem_cons.1 hc with rfl | hc
      · assumption
      · exact dropWhile_nilF h c hc
    · cases h
theorem dropWhile_headF {p : UInt8 → Bool} : ∀ {l : List UInt8} {y : UInt8} {t : List UInt8}, l.dropWhile p = y :: t → p y = false
  | [], y, t, h => by simp at h
  | a :: r, y, t, h => by
    rw [List.dropWhile_cons] at h
    split at h
    · exact dropWhile_headF h
    · rename_i hp
      obtain ⟨rfl, _⟩ := List.cons.inj h
      simpa using hp
theorem trimS_nilF {s cs : List UInt8} (h : Lib.trimS s cs = []) : ∀ c ∈ s, cs.contains c = true := by
  have h1 := dropWhile_nilF (l := Lib.trimRightS s cs) h
  have h2 : s.reverse.dropWhile (cs.contains ·) = [] := by
    cases hq : s.reverse.dropWhile (cs.contains ·) with
    | nil => rfl
    | cons y t =>
      have h3 := dropWhile_headF hq
      have h4 := h1 y (by unfold Lib.trimRightS; rw [hq]; simp)
      rw [h3] at h4; cases h4
  intro c hc
  exact dropWhile_nilF h2 c (List.mem_reverse.2 hc)
theorem dropWhile_allF {p : UInt8 → Bool} : ∀ {l : List UInt8}, (∀ c ∈ l, p c = true) → l.dropWhile p = []
  | [], _ => rfl
  | a :: r, h => by rw [List.dropWhile_cons, if_pos (h a (List.mem_cons_self ..)), dropWhile_allF fun c hc => h c (List.mem_cons_of_mem _ hc)]
theorem trimS_allF {s cs : List UInt8} (h : ∀ c ∈ s, cs.contains c = true) : Lib.trimS s cs = [] := by
  have h2 : s.reverse.dropWhile (cs.contains ·) = [] := dropWhile_allF fun c hc => h c (List.mem_reverse.1 hc)
  have h3 : Lib.trimRightS s cs = [] := by unfold Lib.trimRightS; rw [h2]; rfl
  unfold Lib.trimS; rw [h3]; rfl
theorem all_trim (s : List UInt8) : decide (Lib.trimS s [42] = []) = s.all fun c => decide (c = 42) := by
  rw [Bool.eq_iff_iff, decide_eq_true_eq, List.all_eq_true]
  constructor
  · intro h c hc
    have := trimS_nilF h c hc
    simpa using this
  · intro h
    exact trimS_allF fun c hc => by have := h c hc; simpa using this
theorem Fits_any (p s : List UInt8) (w : World) (hp : p.length ≤ 1000000000) (hs : s.length ≤ 4611686018427387904) :
    Calls Tryz.prog 19 #[str p, str s] w fun e w' => e = .returned (.bool (gm eqL p s)) ∧ Below w.heap.size w w' := by
  refine enter_args (args := [str p, str s]) (F := _) Tryz.func19 rfl Tryz.ntmps19 rfl rfl ?_
  intro Rb hRb hRn
  refine tx ?_
  refine sr 1 ?_
  refine sgx ?_
  refine sr 3 ?_
  refine sgs ?_
  refine tx ?_
  refine sr 1 ?_
  refine sgo ?_
  refine T_block ?_
  refine lK4 (kf := [(4, 55)]) (kl := [(4, 55)]) (fun (i : Nat) (k : Nat) (st : Option Nat) (mk : Nat) => [(5, true, .int .i64 (i : Int)), (6, true, .int .i64 (stI st)), (7, true, .int .i64 (mk : Int)), (8, true, .int .i64 (k : Int))]) (fun (i : Nat) (k : Nat) (st : Option Nat) (mk : Nat) => []) (fun (i : Nat) (k : Nat) (st : Option Nat) (mk : Nat) => Tried eqL p s i k st mk) (fun (i : Nat) (k : Nat) (st : Option Nat) (mk : Nat) => (s.length - mk) * (p.length + s.length + 2) + ((p.length + s.length + 1) - (i + k))) 0 0 none 0 ?_ ?_ ?_ ?_
  · exact Tried.start p s
  · exact ⟨rfl, rfl, rfl, rfl, trivial⟩
  · exact trivial
  rintro i k st mk ht
  refine T_seq ?_
  refine tx ?_
  refine sr 2 ?_
  refine s1 (y_len_str rfl rfl Tryz.underlying9) ?_
  refine sr 1 ?_
  refine sgo ?_
  refine T_cond rfl ?_ ?_ <;> intro h12
  · try simp only [nrm] at h12
    have hk : k < s.length := by omega
    have hmk := ht.mk_le
    have hil := ht.hi
    refine kgo ?_
    refine T_block ?_
    refine T_block ?_
    refine tx ?_
    refine sr 2 ?_
    refine s1 (y_len_str rfl rfl Tryz.underlying9) ?_
    refine sr 2 ?_
    refine sg rfl (y_move rfl rfl) ?_
    refine sg rfl (y_move rfl rfl) ?_
    refine sg rfl (y_index_str rfl rfl rfl Tryz.underlying9 (fun hg => by simp only [Bool.true_and, Bool.and_eq_true, beq_iff_eq, decide_eq_true_eq, decide_eq_false_iff_not, Int.not_lt, Int.not_le] at hg; omega)) ?_
    refine sg rfl (y_bin rfl rfl rfl (fun _ => b_eql)) ?_
    refine s1 (y_and rfl rfl rfl) ?_
    refine sr 1 ?_
    refine sgo ?_
    refine T_cond rfl ?_ ?_ <;> intro h13
    · skip
      have hi : i < p.length ∧ p.getD i 0 = 42 := lit_star h13
      refine tx ?_
      refine sr 4 ?_
      refine sgr ?_
      refine sr 1 ?_
      refine s1 (y_bin rfl rfl rfl (fun hg => b_add (by omega))) ?_
      refine sr 1 ?_
      refine S_nil (nK4 (kf := [(4, 55)]) (kl := [(4, 55)]) (i + 1) k (some i) k ?_ ?_ ?_ ?_)
      · simpa only [show i + 1 + k = i + k + 1 by omega] using mu_star (C := p.length + s.length + 2) (c := s.length) (d := i + k) (e := p.length + s.length + 1) hmk (by omega)
      · exact ht.star hi.1 hi.2
      · exact ⟨rfl, rfl, rfl, rfl, trivial⟩
      · exact trivial
    have hns : i < p.length → p.getD i 0 ≠ 42 := lit_no h13
    refine T_seq ?_
    refine T_draws (by kernel_rfl) (by kernel_rfl) ?_
    refine d1 (y_move rfl rfl) ?_
    refine d1 (y_move rfl rfl) ?_
    refine d1 (y_len_str rfl rfl Tryz.underlying9) ?_
    refine d1 (y_bin rfl rfl rfl (fun _ => b_lss)) ?_
    refine d1 (y_move rfl rfl) ?_
    refine dg rfl (y_move rfl rfl) ?_
    refine dg rfl (y_move rfl rfl) ?_
    refine dg rfl (y_index_str rfl rfl rfl Tryz.underlying9 (fun hg => by simp only [Bool.true_and, Bool.and_eq_true, beq_iff_eq, decide_eq_true_eq, decide_eq_false_iff_not, Int.not_lt, Int.not_le] at hg; omega)) ?_
    refine dg rfl (y_call rfl rfl rfl cf59 (fun _ w _ => lower_any _ (UInt8.toNat_lt _) w)) ?_
    refine dg rfl (y_move rfl rfl) ?_
    refine dg rfl (y_move rfl rfl) ?_
    refine dg rfl (y_index_str rfl rfl rfl Tryz.underlying9 (fun hg => by simp only [Bool.true_and, Bool.and_eq_true, beq_iff_eq, decide_eq_true_eq, decide_eq_false_iff_not, Int.not_lt, Int.not_le] at hg; omega)) ?_
    refine dg rfl (y_call rfl rfl rfl cf59 (fun _ w _ => lower_any _ (UInt8.toNat_lt _) w)) ?_
    refine dg rfl (y_bin rfl rfl rfl (fun _ => b_eql)) ?_
    refine d1 (y_and rfl rfl rfl) ?_
    refine d1 (y_assign rfl rfl) ?_
    refine dgo ?_
    refine T_cond rfl ?_ ?_ <;> intro h28
    · skip
      have hi : i < p.length ∧ eqL (p.getD i 0) (s.getD k 0) = true := by simp only [Bool.and_eq_true, decide_eq_true_eq] at h28; exact ⟨by omega, decide_eq_true h28.2⟩
      refine tx ?_
      refine sr 1 ?_
      refine s1 (y_bin rfl rfl rfl (fun hg => b_add (by omega))) ?_
      refine sr 1 ?_
      refine sgr ?_
      refine sr 1 ?_
      refine s1 (y_bin rfl rfl rfl (fun hg => b_add (by omega))) ?_
      refine sr 1 ?_
      refine S_nil (nK4 (kf := [(4, 55)]) (kl := [(4, 55)]) (i + 1) (k + 1) st mk ?_ ?_ ?_ ?_)
      · omega
      · exact ht.lit hi.1 hk (hns hi.1) hi.2
      · exact ⟨rfl, rfl, rfl, rfl, trivial⟩
      · exact trivial
    have hno : i < p.length → p.getD i 0 ≠ 42 ∧ eqL (p.getD i 0) (s.getD k 0) = false := fun h => ⟨hns h, by rw [decide_eq_true (show ((i : Nat) : Int) < p.length by omega), Bool.true_and] at h28; exact h28⟩
    refine tx ?_
    refine sr 3 ?_
    refine sgo ?_
    refine T_cond rfl ?_ ?_ <;> intro h48
    · skip
      obtain ⟨j, rfl⟩ : ∃ j, st = some j := by cases st with
        | none => simp [stI] at h48 <;> omega
        | some j => exact ⟨j, rfl⟩
      have hji := (ht.hst j rfl).1
      refine tx ?_
      refine sr 1 ?_
      refine s1 (y_bin rfl rfl rfl (fun hg => b_add (by omega))) ?_
      refine sr 1 ?_
      refine sgr ?_
      refine s1 (y_as (v' := .int .i64 ((j : Nat) : Int)) (by exact rfl) (y_move rfl rfl)) ?_
      refine s1 (y_bin rfl rfl rfl (fun hg => b_add (by omega))) ?_
      refine sr 3 ?_
      refine S_nil (nK4 (kf := [(4, 55)]) (kl := [(4, 55)]) (j + 1) (mk + 1) (some j) (mk + 1) ?_ ?_ ?_ ?_)
      · exact mu_back (by omega) (by omega)
      · exact ht.back hk hno
      · exact ⟨rfl, rfl, rfl, rfl, trivial⟩
      · exact trivial
    have hst : st = none := by cases st with
      | none => rfl
      | some j => simp [stI] at h48 <;> omega
    subst hst
    refine tx ?_
    refine sr 1 ?_
    refine sgo ?_
    refine tr1 hRb fun w hM => ?_
    exact ⟨by rw [ht.fail hk hno], hM.below⟩
  try simp only [nrm] at h12
  have hk : s.length ≤ k := by omega
  have hil := ht.hi
  refine egx ?_
  refine sr 2 ?_
  refine s1 (y_strFrom rfl rfl rfl Tryz.underlying9 (fun _ => by omega)) ?_
  refine s1 (y_call rfl rfl rfl cf60 (fun _ w _ => Any.strings_Trim_laid Tryz.lays160 (by kernel_rfl) ⟨(p.drop i).toArray⟩ ⟨([42] : List UInt8).toArray⟩ w (by rw [Lib.size_eq]; simp; omega) (by decide) (ascii_of_all (by decide)))) ?_
  refine s1 (y_bin rfl rfl rfl (fun _ => b_eqls)) ?_
  refine sr 1 ?_
  refine sgo ?_
  refine tr1 hRb fun w hM => ?_
  exact ⟨by rw [ht.done hk, ← all_trim], hM.below⟩
end Go.Proofs.YtgbldojgbpgjbaaGreatDoor
end
section
namespace Go.Proofs.YtgbldojgbpgjbaaGreatDoor
set_option linter.unusedSimpArgs false
set_option linter.unusedVariables false
set_option maxRecDepth 20000
open Go.RowKit Go.Eng
/-! ### step -/
end Go.Proofs.YtgbldojgbpgjbaaGreatDoor
end
section
namespace Go.Proofs.YtgbldojgbpgjbaaGreatDoor
set_option linter.unusedSimpArgs false
set_option linter.unusedVariables false
set_option maxRecDepth 20000
open Go.RowKit Go.Eng
def lowB (c : UInt8) : UInt8 := UInt8.ofNat (lowN c.toNat)
end Go.Proofs.YtgbldojgbpgjbaaGreatDoor
end
section
namespace Go.Proofs.YtgbldojgbpgjbaaGreatDoor
set_option linter.unusedSimpArgs false
set_option linter.unusedVariables false
set_option maxRecDepth 20000
open Go.RowKit Go.Eng
end Go.Proofs.YtgbldojgbpgjbaaGreatDoor
end
section
namespace Go.Proofs.YtgbldojgbpgjbaaGreatDoor
set_option linter.unusedSimpArgs false
set_option linter.unusedVariables false
set_option maxRecDepth 20000
open Go.RowKit Go.Eng
def Frm.eqB (a b : Frm) : Bool := decide (a.m = b.m) && (decide (a.f = b.f) && (decide (a.fi = b.fi) && (decide (a.ln = b.ln) && (decide (a.ad = b.ad) && (a.own == b.own)))))
theorem Frm.eqB_iff (a b : Frm) : Frm.eqB a b = true ↔ a = b := by cases a; cases b; simp [Frm.eqB]
def STag.eqB (a b : STag) : Bool := decide (a.n = b.n) && decide (a.v = b.v)
theorem STag.eqB_iff (a b : STag) : STag.eqB a b = true ↔ a = b := by cases a; cases b; simp [STag.eqB]
def SCrumb.eqB (a b : SCrumb) : Bool := decide (a.at_ = b.at_) && (decide (a.k = b.k) && decide (a.t = b.t))
theorem SCrumb.eqB_iff (a b : SCrumb) : SCrumb.eqB a b = true ↔ a = b := by cases a; cases b; simp [SCrumb.eqB]
def strE (l : List UInt8) : List Value := [str l]
theorem EqualFr_any (A B : Option Addr) (q c p d : Nat) (l m : List (Frm)) (w : World) (hl : SlT Frm.enc 6 w A q l) (hm : SlT Frm.enc 6 w B p m) (hq : q ≤ 4611686018427387904) (hp : p ≤ 4611686018427387904) :
    Calls Tryz.prog 86 #[.slice A q c, .slice B p d] w fun e w' => e = .returned (.bool (eqLB Frm.eqB l m)) ∧ Below w.heap.size w w' := by
  have hlen := hl.len
  have hmen := hm.len
  refine enter_args (args := [.slice A q c, .slice B p d]) (F := _) Tryz.func86 rfl Tryz.ntmps86 rfl rfl ?_
  intro Rb hRb hRn
  refine tx ?_
  refine sr 1 ?_
  refine sgs ?_
  refine tx ?_
  refine sr 1 ?_
  refine s1 (y_len_slice rfl rfl Tryz.underlying32) ?_
  refine sr 1 ?_
  refine s1 (y_len_slice rfl rfl Tryz.underlying32) ?_
  refine sr 1 ?_
  refine sgo ?_
  refine T_cond rfl ?_ ?_ <;> intro h10
  · try simp only [nrm] at h10
    refine tx ?_
    refine sr 1 ?_
    refine sgo ?_
    refine tr1 hRb fun w hM => ?_
    exact ⟨by rw [eqLB_len l m (by omega)], hM.below⟩
  try simp only [nrm] at h10
  refine kgs ?_
  refine tx ?_
  refine sr 1 ?_
  refine s1 (y_len_slice rfl rfl Tryz.underlying32) ?_
  refine sr 1 ?_
  refine sgo ?_
  refine T_block ?_
  refine lK1 (kf := [(4, 5), (13, 25)]) (kl := [(4, 5), (13, 25)]) (fun (i : Nat) => [(13, true, .int .i64 (i : Int))]) (fun (i : Nat) => []) (fun (i : Nat) => i ≤ q ∧ eqLB Frm.eqB l m = eqLB Frm.eqB (l.drop i) (m.drop i)) (fun (i : Nat) => q - i) 0 ?_ ?_ ?_ ?_
  · exact ⟨by omega, rfl⟩
  · exact ⟨rfl, trivial⟩
  · exact trivial
  rintro i ⟨hp1, hp2⟩
  refine tx ?_
  refine sr 1 ?_
  refine sgs ?_
  refine T_cond rfl ?_ ?_ <;> intro h14
  · try simp only [nrm] at h14
    obtain ⟨a, hx1, hx2⟩ := hl.at (i := i) (by omega)
    obtain ⟨b, hy1, hy2⟩ := hm.at (i := i) (by omega)
    refine kgs ?_
    refine T_block ?_
    refine tx ?_
    refine sr 2 ?_
    refine sgs ?_
    refine T_draws (by kernel_rfl) (by kernel_rfl) ?_
    refine d1 (y_move rfl rfl) ?_
    refine d1 (y_move rfl rfl) ?_
    refine d1 (y_indexAddr rfl rfl rfl Tryz.underlying32 sz45 (fun hg => hl.isSome (by omega)) (fun _ => by omega)) ?_
    refine d1 (y_loadT rfl rfl hl (fun _ => rfl) (fun _ => hx1) Tryz.underlying45 rfl sz45) ?_
    refine d1 (y_move rfl rfl) ?_
    refine d1 (y_move rfl rfl) ?_
    refine d1 (y_indexAddr rfl rfl rfl Tryz.underlying32 sz45 (fun hg => hm.isSome (by omega)) (fun _ => by omega)) ?_
    refine d1 (y_loadT rfl rfl hm (fun _ => rfl) (fun _ => hy1) Tryz.underlying45 rfl sz45) ?_
    refine d1 (y_as (v' := .bool (!(Frm.eqB a b))) (by simp [Frm.eqB, str]) (y_bin rfl rfl rfl (fun _ => b_neqA (rs := [_, _, _, _, _, _]) Tryz.underlying45 (by kernel_rfl) (by kernel_rfl) ⟨by decide, ⟨_, Tryz.underlying9, rfl, _, _, rfl, rfl, rfl⟩, by decide, ⟨_, Tryz.underlying9, rfl, _, _, rfl, rfl, rfl⟩, by decide, ⟨_, Tryz.underlying9, rfl, _, _, rfl, rfl, rfl⟩, by decide, ⟨_, Tryz.underlying3, rfl, _, _, rfl, rfl, rfl⟩, by decide, ⟨_, Tryz.underlying3, rfl, _, _, rfl, rfl, rfl⟩, by decide, ⟨_, Tryz.underlying4, rfl, _, _, rfl, rfl, rfl⟩, trivial⟩))) ?_
    refine dgo ?_
    refine T_cond rfl ?_ ?_ <;> intro h24
    · skip
      have h24e : Frm.eqB a b = false := by simpa using h24
      refine tx ?_
      refine sr 1 ?_
      refine sgo ?_
      refine tr1 hRb fun w hM => ?_
      exact ⟨by rw [hp2, hx2, hy2, eqLB, h24e, Bool.false_and], hM.below⟩
    have h24e : Frm.eqB a b = true := by simpa using h24
    refine kgr ?_
    refine s1 (y_bin rfl rfl rfl (fun hg => b_add (by omega))) ?_
    refine sr 1 ?_
    refine S_nil (nK1 (kf := [(4, 5), (13, 25)]) (kl := [(4, 5), (13, 25)]) (i + 1) ?_ ?_ ?_ ?_)
    · omega
    · exact ⟨by omega, by rw [hp2, hx2, hy2, eqLB, h24e, Bool.true_and]⟩
    · exact ⟨rfl, trivial⟩
    · exact trivial
  try simp only [nrm] at h14
  refine egx ?_
  refine sr 1 ?_
  refine sgo ?_
  refine tr1 hRb fun w hM => ?_
  exact ⟨by rw [hp2, hl.end (by omega), hm.end (by omega)]; rfl, hM.below⟩
theorem EqualTg_any (A B : Option Addr) (q c p d : Nat) (l m : List (STag)) (w : World) (hl : SlT STag.enc 2 w A q l) (hm : SlT STag.enc 2 w B p m) (hq : q ≤ 4611686018427387904) (hp : p ≤ 4611686018427387904) :
    Calls Tryz.prog 40 #[.slice A q c, .slice B p d] w fun e w' => e = .returned (.bool (eqLB STag.eqB l m)) ∧ Below w.heap.size w w' := by
  have hlen := hl.len
  have hmen := hm.len
  refine enter_args (args := [.slice A q c, .slice B p d]) (F := _) Tryz.func40 rfl Tryz.ntmps40 rfl rfl ?_
  intro Rb hRb hRn
  refine tx ?_
  refine sr 1 ?_
  refine sgs ?_
  refine tx ?_
  refine sr 1 ?_
  refine s1 (y_len_slice rfl rfl Tryz.underlying23) ?_
  refine sr 1 ?_
  refine s1 (y_len_slice rfl rfl Tryz.underlying23) ?_
  refine sr 1 ?_
  refine sgo ?_
  refine T_cond rfl ?_ ?_ <;> intro h10
  · try simp only [nrm] at h10
    refine tx ?_
    refine sr 1 ?_
    refine sgo ?_
    refine tr1 hRb fun w hM => ?_
    exact ⟨by rw [eqLB_len l m (by omega)], hM.below⟩
  try simp only [nrm] at h10
  refine kgs ?_
  refine tx ?_
  refine sr 1 ?_
  refine s1 (y_len_slice rfl rfl Tryz.underlying23) ?_
  refine sr 1 ?_
  refine sgo ?_
  refine T_block ?_
  refine lK1 (kf := [(4, 5), (13, 25)]) (kl := [(4, 5), (13, 25)]) (fun (i : Nat) => [(13, true, .int .i64 (i : Int))]) (fun (i : Nat) => []) (fun (i : Nat) => i ≤ q ∧ eqLB STag.eqB l m = eqLB STag.eqB (l.drop i) (m.drop i)) (fun (i : Nat) => q - i) 0 ?_ ?_ ?_ ?_
  · exact ⟨by omega, rfl⟩
  · exact ⟨rfl, trivial⟩
  · exact trivial
  rintro i ⟨hp1, hp2⟩
  refine tx ?_
  refine sr 1 ?_
  refine sgs ?_
  refine T_cond rfl ?_ ?_ <;> intro h14
  · try simp only [nrm] at h14
    obtain ⟨a, hx1, hx2⟩ := hl.at (i := i) (by omega)
    obtain ⟨b, hy1, hy2⟩ := hm.at (i := i) (by omega)
    refine kgs ?_
    refine T_block ?_
    refine tx ?_
    refine sr 2 ?_
    refine sgs ?_
    refine T_draws (by kernel_rfl) (by kernel_rfl) ?_
    refine d1 (y_move rfl rfl) ?_
    refine d1 (y_move rfl rfl) ?_
    refine d1 (y_indexAddr rfl rfl rfl Tryz.underlying23 sz83 (fun hg => hl.isSome (by omega)) (fun _ => by omega)) ?_
    refine d1 (y_loadT rfl rfl hl (fun _ => rfl) (fun _ => hx1) Tryz.underlying83 rfl sz83) ?_
    refine d1 (y_move rfl rfl) ?_
    refine d1 (y_move rfl rfl) ?_
    refine d1 (y_indexAddr rfl rfl rfl Tryz.underlying23 sz83 (fun hg => hm.isSome (by omega)) (fun _ => by omega)) ?_
    refine d1 (y_loadT rfl rfl hm (fun _ => rfl) (fun _ => hy1) Tryz.underlying83 rfl sz83) ?_
    refine d1 (y_as (v' := .bool (!(STag.eqB a b))) (by simp [STag.eqB, str]) (y_bin rfl rfl rfl (fun _ => b_neqA (rs := [_, _]) Tryz.underlying83 (by kernel_rfl) (by kernel_rfl) ⟨by decide, ⟨_, Tryz.underlying9, rfl, _, _, rfl, rfl, rfl⟩, by decide, ⟨_, Tryz.underlying9, rfl, _, _, rfl, rfl, rfl⟩, trivial⟩))) ?_
    refine dgo ?_
    refine T_cond rfl ?_ ?_ <;> intro h24
    · skip
      have h24e : STag.eqB a b = false := by simpa using h24
      refine tx ?_
      refine sr 1 ?_
      refine sgo ?_
      refine tr1 hRb fun w hM => ?_
      exact ⟨by rw [hp2, hx2, hy2, eqLB, h24e, Bool.false_and], hM.below⟩
    have h24e : STag.eqB a b = true := by simpa using h24
    refine kgr ?_
    refine s1 (y_bin rfl rfl rfl (fun hg => b_add (by omega))) ?_
    refine sr 1 ?_
    refine S_nil (nK1 (kf := [(4, 5), (13, 25)]) (kl := [(4, 5), (13, 25)]) (i + 1) ?_ ?_ ?_ ?_)
    · omega
    · exact ⟨by omega, by rw [hp2, hx2, hy2, eqLB, h24e, Bool.true_and]⟩
    · exact ⟨rfl, trivial⟩
    · exact trivial
  try simp only [nrm] at h14
  refine egx ?_
  refine sr 1 ?_
  refine sgo ?_
  refine tr1 hRb fun w hM => ?_
  exact ⟨by rw [hp2, hl.end (by omega), hm.end (by omega)]; rfl, hM.below⟩
theorem EqualCr_any (A B : Option Addr) (q c p d : Nat) (l m : List (SCrumb)) (w : World) (hl : SlT SCrumb.enc 3 w A q l) (hm : SlT SCrumb.enc 3 w B p m) (hq : q ≤ 4611686018427387904) (hp : p ≤ 4611686018427387904) :
    Calls Tryz.prog 41 #[.slice A q c, .slice B p d] w fun e w' => e = .returned (.bool (eqLB SCrumb.eqB l m)) ∧ Below w.heap.size w w' := by
  have hlen := hl.len
  have hmen := hm.len
  refine enter_args (args := [.slice A q c, .slice B p d]) (F := _) Tryz.func41 rfl Tryz.ntmps41 rfl rfl ?_
  intro Rb hRb hRn
  refine tx ?_
  refine sr 1 ?_
  refine sgs ?_
  refine tx ?_
  refine sr 1 ?_
  refine s1 (y_len_slice rfl rfl Tryz.underlying24) ?_
  refine sr 1 ?_
  refine s1 (y_len_slice rfl rfl Tryz.underlying24) ?_
  refine sr 1 ?_
  refine sgo ?_
  refine T_cond rfl ?_ ?_ <;> intro h10
  · try simp only [nrm] at h10
    refine tx ?_
    refine sr 1 ?_
    refine sgo ?_
    refine tr1 hRb fun w hM => ?_
    exact ⟨by rw [eqLB_len l m (by omega)], hM.below⟩
  try simp only [nrm] at h10
  refine kgs ?_
  refine tx ?_
  refine sr 1 ?_
  refine s1 (y_len_slice rfl rfl Tryz.underlying24) ?_
  refine sr 1 ?_
  refine sgo ?_
  refine T_block ?_
  refine lK1 (kf := [(4, 5), (13, 25)]) (kl := [(4, 5), (13, 25)]) (fun (i : Nat) => [(13, true, .int .i64 (i : Int))]) (fun (i : Nat) => []) (fun (i : Nat) => i ≤ q ∧ eqLB SCrumb.eqB l m = eqLB SCrumb.eqB (l.drop i) (m.drop i)) (fun (i : Nat) => q - i) 0 ?_ ?_ ?_ ?_
  · exact ⟨by omega, rfl⟩
  · exact ⟨rfl, trivial⟩
  · exact trivial
  rintro i ⟨hp1, hp2⟩
  refine tx ?_
  refine sr 1 ?_
  refine sgs ?_
  refine T_cond rfl ?_ ?_ <;> intro h14
  · try simp only [nrm] at h14
    obtain ⟨a, hx1, hx2⟩ := hl.at (i := i) (by omega)
    obtain ⟨b, hy1, hy2⟩ := hm.at (i := i) (by omega)
    refine kgs ?_
    refine T_block ?_
    refine tx ?_
    refine sr 2 ?_
    refine sgs ?_
    refine T_draws (by kernel_rfl) (by kernel_rfl) ?_
    refine d1 (y_move rfl rfl) ?_
    refine d1 (y_move rfl rfl) ?_
    refine d1 (y_indexAddr rfl rfl rfl Tryz.underlying24 sz85 (fun hg => hl.isSome (by omega)) (fun _ => by omega)) ?_
    refine d1 (y_loadT rfl rfl hl (fun _ => rfl) (fun _ => hx1) Tryz.underlying85 rfl sz85) ?_
    refine d1 (y_move rfl rfl) ?_
    refine d1 (y_move rfl rfl) ?_
    refine d1 (y_indexAddr rfl rfl rfl Tryz.underlying24 sz85 (fun hg => hm.isSome (by omega)) (fun _ => by omega)) ?_
    refine d1 (y_loadT rfl rfl hm (fun _ => rfl) (fun _ => hy1) Tryz.underlying85 rfl sz85) ?_
    refine d1 (y_as (v' := .bool (!(SCrumb.eqB a b))) (by simp [SCrumb.eqB, str]) (y_bin rfl rfl rfl (fun _ => b_neqA (rs := [_, _, _]) Tryz.underlying85 (by kernel_rfl) (by kernel_rfl) ⟨by decide, ⟨_, Tryz.underlying3, rfl, _, _, rfl, rfl, rfl⟩, by decide, ⟨_, Tryz.underlying9, rfl, _, _, rfl, rfl, rfl⟩, by decide, ⟨_, Tryz.underlying9, rfl, _, _, rfl, rfl, rfl⟩, trivial⟩))) ?_
    refine dgo ?_
    refine T_cond rfl ?_ ?_ <;> intro h24
    · skip
      have h24e : SCrumb.eqB a b = false := by simpa using h24
      refine tx ?_
      refine sr 1 ?_
      refine sgo ?_
      refine tr1 hRb fun w hM => ?_
      exact ⟨by rw [hp2, hx2, hy2, eqLB, h24e, Bool.false_and], hM.below⟩
    have h24e : SCrumb.eqB a b = true := by simpa using h24
    refine kgr ?_
    refine s1 (y_bin rfl rfl rfl (fun hg => b_add (by omega))) ?_
    refine sr 1 ?_
    refine S_nil (nK1 (kf := [(4, 5), (13, 25)]) (kl := [(4, 5), (13, 25)]) (i + 1) ?_ ?_ ?_ ?_)
    · omega
    · exact ⟨by omega, by rw [hp2, hx2, hy2, eqLB, h24e, Bool.true_and]⟩
    · exact ⟨rfl, trivial⟩
    · exact trivial
  try simp only [nrm] at h14
  refine egx ?_
  refine sr 1 ?_
  refine sgo ?_
  refine tr1 hRb fun w hM => ?_
  exact ⟨by rw [hp2, hl.end (by omega), hm.end (by omega)]; rfl, hM.below⟩
def Flt.eqB (x y : Flt) : Bool := decide (x.k = y.k) && decide (x.t = y.t) && eqLB Frm.eqB x.fr.l y.fr.l
theorem sameFlt_any (x y : Flt) (w : World) (hx : FltOk w x) (hy : FltOk w y) :
    Calls Tryz.prog 85 #[x.val, y.val] w fun e w' => e = .returned (.bool (Flt.eqB x y)) ∧ Below w.heap.size w w' := by
  have hxq := hx.fr.q
  have hyq := hy.fr.q
  refine enter_args (args := [.agg #[str x.k, str x.t, .slice x.fr.A x.fr.q x.fr.c], .agg #[str y.k, str y.t, .slice y.fr.A y.fr.q y.fr.c]]) (F := _) Tryz.func85 rfl Tryz.ntmps85 rfl rfl ?_
  intro Rb hRb hRn
  refine tx ?_
  refine S_box 2 2 rfl rfl rfl rfl rfl ?_
  intro b2
  refine S_box 3 3 rfl rfl rfl rfl rfl ?_
  intro b3
  refine sr 1 ?_
  refine sgx ?_
  refine s1 (yF fa36_0) ?_
  refine s1 (yL 2 Tryz.underlying9) ?_
  refine s1 (yF fa36_0) ?_
  refine s1 (yL 3 Tryz.underlying9) ?_
  refine s1 (y_bin rfl rfl rfl (fun _ => b_eqls)) ?_
  refine sr 1 ?_
  refine sg rfl (yF fa36_1) ?_
  refine sg rfl (yL 2 Tryz.underlying9) ?_
  refine sg rfl (yF fa36_1) ?_
  refine sg rfl (yL 3 Tryz.underlying9) ?_
  refine sg rfl (y_bin rfl rfl rfl (fun _ => b_eqls)) ?_
  refine s1 (y_and rfl rfl rfl) ?_
  refine sr 1 ?_
  refine sg rfl (yF fa36_2) ?_
  refine sg rfl (yL 2 Tryz.underlying32) ?_
  refine sg rfl (yF fa36_2) ?_
  refine sg rfl (yL 3 Tryz.underlying32) ?_
  refine sg rfl (y_call rfl rfl rfl cf86 (fun _ w hM => EqualFr_any _ _ _ _ _ _ _ _ w (hx.fr.ok.t.below hM.below) (hy.fr.ok.t.below hM.below) hxq hyq)) ?_
  refine s1 (y_and rfl rfl rfl) ?_
  refine sr 1 ?_
  refine sgo ?_
  refine tr1 hRb fun w hM => ?_
  exact ⟨rfl, hM.below⟩
theorem EqualFuncFlt_any (l m : Sl Flt) (g : FuncId) (cap : Array Value) (w : World) (hl : FltsOk w l) (hm : FltsOk w m) (hcf : ∀ args w, (callFunc g args).run Tryz.prog w = .ok (.enter g args) w)
    (hA : ∀ x y w', Below w.heap.size w w' → FltOk w' x → FltOk w' y → Calls Tryz.prog g (#[x.val, y.val] ++ cap) w' fun e w'' => e = .returned (.bool (Flt.eqB x y)) ∧ Below w'.heap.size w' w'') :
    Calls Tryz.prog 84 #[.slice l.A l.q l.c, .slice m.A m.q m.c, .func (.func g) #[] cap] w fun e w' => e = .returned (.bool (eqLB Flt.eqB l.l m.l)) ∧ Below w.heap.size w w' := by
  have ht := hl.ok.t
  have hu := hm.ok.t
  have hq := hl.q
  have hp := hm.q
  have hlen := ht.len
  have hmen := hu.len
  refine enter_args (args := [.slice l.A l.q l.c, .slice m.A m.q m.c, .func (.func g) #[] cap]) (F := _) Tryz.func84 rfl Tryz.ntmps84 rfl rfl ?_
  intro Rb hRb hRn
  refine tx ?_
  refine sr 1 ?_
  refine sgs ?_
  refine tx ?_
  refine sr 1 ?_
  refine s1 (y_len_slice rfl rfl Tryz.underlying22) ?_
  refine sr 1 ?_
  refine s1 (y_len_slice rfl rfl Tryz.underlying22) ?_
  refine sr 1 ?_
  refine sgo ?_
  refine T_cond rfl ?_ ?_ <;> intro h14
  · try simp only [nrm] at h14
    refine tx ?_
    refine sr 1 ?_
    refine sgo ?_
    refine tr1 hRb fun w hM => ?_
    exact ⟨by rw [eqLB_len l.l m.l (by omega)], hM.below⟩
  try simp only [nrm] at h14
  refine kgs ?_
  refine tx ?_
  refine sr 1 ?_
  refine s1 (y_len_slice rfl rfl Tryz.underlying22) ?_
  refine sr 1 ?_
  refine sgo ?_
  refine T_block ?_
  refine lK1 (kf := [(6, 9), (17, 31)]) (kl := [(6, 9), (17, 31)]) (fun (i : Nat) => [(17, true, .int .i64 (i : Int))]) (fun (i : Nat) => []) (fun (i : Nat) => i ≤ l.q ∧ eqLB Flt.eqB l.l m.l = eqLB Flt.eqB (l.l.drop i) (m.l.drop i)) (fun (i : Nat) => l.q - i) 0 ?_ ?_ ?_ ?_
  · exact ⟨by omega, rfl⟩
  · exact ⟨rfl, trivial⟩
  · exact trivial
  rintro i ⟨hp1, hp2⟩
  refine tx ?_
  refine sr 1 ?_
  refine sgs ?_
  refine T_cond rfl ?_ ?_ <;> intro h18
  · try simp only [nrm] at h18
    obtain ⟨x, hx1, hx2⟩ := ht.at (i := i) (by omega)
    obtain ⟨y, hy1, hy2⟩ := hu.at (i := i) (by omega)
    refine kgs ?_
    refine T_block ?_
    refine tx ?_
    refine sr 1 ?_
    refine s1 (y_indexAddr rfl rfl rfl Tryz.underlying22 sz36 (fun hg => ht.isSome (by omega)) (fun _ => by omega)) ?_
    refine s1 (y_loadT rfl rfl ht (fun _ => rfl) (fun _ => hx1) Tryz.underlying36 rfl sz36) ?_
    refine S_alloc 8 8 rfl rfl rfl rfl z36 ?_
    intro b8
    refine sr 1 ?_
    refine S_store 8 rfl rfl rfl rfl rfl rfl sz36 rfl rfl ?_
    refine sgx ?_
    refine sr 2 ?_
    refine s1 (y_indexAddr rfl rfl rfl Tryz.underlying22 sz36 (fun hg => hu.isSome (by omega)) (fun _ => by omega)) ?_
    refine s1 (y_loadT rfl rfl hu (fun _ => rfl) (fun _ => hy1) Tryz.underlying36 rfl sz36) ?_
    refine S_alloc 9 9 rfl rfl rfl rfl z36 ?_
    intro b9
    refine S_store 9 rfl rfl rfl rfl rfl rfl sz36 rfl rfl ?_
    refine sgx ?_
    refine sr 1 ?_
    refine s1 (yA 8 rfl Tryz.underlying36 sz36) ?_
    refine s1 (yA 9 rfl Tryz.underlying36 sz36) ?_
    refine s1 (y_call rfl rfl rfl hcf (fun _ w hM => hA x y w hM.below ((hl.n x (mem_at hx1)).below hM.below) ((hm.n y (mem_at hy1)).below hM.below))) ?_
    refine sr 1 ?_
    refine sgo ?_
    refine T_cond rfl ?_ ?_ <;> intro h30
    · try simp only [nrm] at h30
      refine tx ?_
      refine sr 1 ?_
      refine sgo ?_
      refine tr1 hRb fun w hM => ?_
      exact ⟨by rw [hp2, hx2, hy2, eqLB, h30, Bool.false_and], hM.below⟩
    try simp only [nrm] at h30
    refine kgr ?_
    refine s1 (y_bin rfl rfl rfl (fun hg => b_add (by omega))) ?_
    refine sr 1 ?_
    refine S_nil (nK1 (kf := [(6, 9), (17, 31)]) (kl := [(6, 9), (17, 31)]) (i + 1) ?_ ?_ ?_ ?_)
    · omega
    · exact ⟨by omega, by rw [hp2, hx2, hy2, eqLB, h30, Bool.true_and]⟩
    · exact ⟨rfl, trivial⟩
    · exact trivial
  try simp only [nrm] at h18
  refine egx ?_
  refine sr 1 ?_
  refine sgo ?_
  refine tr1 hRb fun w hM => ?_
  exact ⟨by rw [hp2, ht.end (by omega), hu.end (by omega)]; rfl, hM.below⟩
theorem sSame_any (l m : Sl Flt) (w : World) (hl : FltsOk w l) (hm : FltsOk w m) :
    Calls Tryz.prog 39 #[.slice l.A l.q l.c, .slice m.A m.q m.c] w fun e w' => e = .returned (.bool (eqLB Flt.eqB l.l m.l)) ∧ Below w.heap.size w w' := by
  refine enter_args (args := [.slice l.A l.q l.c, .slice m.A m.q m.c]) (F := _) Tryz.func39 rfl Tryz.ntmps39 rfl rfl ?_
  intro Rb hRb hRn
  refine tx ?_
  refine sr 1 ?_
  refine sgx ?_
  refine sr 2 ?_
  refine s1 (y_call rfl rfl rfl cf84 (fun _ w hM => EqualFuncFlt_any l m _ #[] w (hl.below hM.below) (hm.below hM.below) cf85 (fun x y w _ hx hy => sameFlt_any x y w hx hy))) ?_
  refine sr 1 ?_
  refine sgo ?_
  refine tr1 hRb fun w hM => ?_
  exact ⟨rfl, hM.below⟩
def sameE (a b : Evt) : Bool := decide (a.id = b.id) && decide (a.at_ = b.at_) && decide (a.lv = b.lv) && eqLB Flt.eqB a.fa.l b.fa.l && eqLB STag.eqB a.ta.l b.ta.l && eqLB SCrumb.eqB a.cr.l b.cr.l && decide (a.rel = b.rel) && decide (a.us = b.us) && decide (a.wt = b.wt)
theorem Same_any (a b : Evt) (w : World) (ha : a.Ok w) (hb : b.Ok w) :
    Calls Tryz.prog 11 #[a.val, b.val] w fun e w' => e = .returned (.bool (sameE a b)) ∧ Below w.heap.size w w' := by
  refine enter_args (args := [.agg #[str a.id, .int .i64 a.at_, .int .i64 a.lv, .slice a.fa.A a.fa.q a.fa.c, .slice a.ta.A a.ta.q a.ta.c, .slice a.cr.A a.cr.q a.cr.c, str a.rel, str a.us, .int .i64 a.wt], .agg #[str b.id, .int .i64 b.at_, .int .i64 b.lv, .slice b.fa.A b.fa.q b.fa.c, .slice b.ta.A b.ta.q b.ta.c, .slice b.cr.A b.cr.q b.cr.c, str b.rel, str b.us, .int .i64 b.wt]]) (F := _) Tryz.func11 rfl Tryz.ntmps11 rfl rfl ?_
  intro Rb hRb hRn
  refine tx ?_
  refine S_box 2 2 rfl rfl rfl rfl rfl ?_
  intro b2
  refine S_box 3 3 rfl rfl rfl rfl rfl ?_
  intro b3
  refine sr 1 ?_
  refine sgx ?_
  refine s1 (yF fa26_0) ?_
  refine s1 (yL 2 Tryz.underlying9) ?_
  refine s1 (yF fa26_0) ?_
  refine s1 (yL 3 Tryz.underlying9) ?_
  refine s1 (y_bin rfl rfl rfl (fun _ => b_eqls)) ?_
  refine sr 1 ?_
  refine sg rfl (yF fa26_1) ?_
  refine sg rfl (yL 2 Tryz.underlying3) ?_
  refine sg rfl (yF fa26_1) ?_
  refine sg rfl (yL 3 Tryz.underlying3) ?_
  refine sg rfl (y_bin rfl rfl rfl (fun _ => b_eql)) ?_
  refine s1 (y_and rfl rfl rfl) ?_
  refine sr 1 ?_
  refine sg rfl (yF fa26_2) ?_
  refine sg rfl (yL 2 Tryz.underlying3) ?_
  refine sg rfl (yF fa26_2) ?_
  refine sg rfl (yL 3 Tryz.underlying3) ?_
  refine sg rfl (y_bin rfl rfl rfl (fun _ => b_eql)) ?_
  refine s1 (y_and rfl rfl rfl) ?_
  refine sr 1 ?_
  refine sg rfl (yF fa26_3) ?_
  refine sg rfl (yL 2 Tryz.underlying22) ?_
  refine sg rfl (yF fa26_3) ?_
  refine sg rfl (yL 3 Tryz.underlying22) ?_
  refine sg rfl (y_call rfl rfl rfl cf39 (fun _ w hM => sSame_any a.fa b.fa w (ha.fa.below hM.below) (hb.fa.below hM.below))) ?_
  refine s1 (y_and rfl rfl rfl) ?_
  refine sr 1 ?_
  refine sg rfl (yF fa26_4) ?_
  refine sg rfl (yL 2 Tryz.underlying23) ?_
  refine sg rfl (yF fa26_4) ?_
  refine sg rfl (yL 3 Tryz.underlying23) ?_
  refine sg rfl (y_call rfl rfl rfl cf40 (fun _ w hM => EqualTg_any _ _ _ _ _ _ _ _ w (ha.ta.ok.t.below hM.below) (hb.ta.ok.t.below hM.below) ha.ta.q hb.ta.q)) ?_
  refine s1 (y_and rfl rfl rfl) ?_
  refine sr 1 ?_
  refine sg rfl (yF fa26_5) ?_
  refine sg rfl (yL 2 Tryz.underlying24) ?_
  refine sg rfl (yF fa26_5) ?_
  refine sg rfl (yL 3 Tryz.underlying24) ?_
  refine sg rfl (y_call rfl rfl rfl cf41 (fun _ w hM => EqualCr_any _ _ _ _ _ _ _ _ w (ha.cr.ok.t.below hM.below) (hb.cr.ok.t.below hM.below) ha.cr.q hb.cr.q)) ?_
  refine s1 (y_and rfl rfl rfl) ?_
  refine sr 1 ?_
  refine sg rfl (yF fa26_6) ?_
  refine sg rfl (yL 2 Tryz.underlying9) ?_
  refine sg rfl (yF fa26_6) ?_
  refine sg rfl (yL 3 Tryz.underlying9) ?_
  refine sg rfl (y_bin rfl rfl rfl (fun _ => b_eqls)) ?_
  refine s1 (y_and rfl rfl rfl) ?_
  refine sr 1 ?_
  refine sg rfl (yF fa26_7) ?_
  refine sg rfl (yL 2 Tryz.underlying9) ?_
  refine sg rfl (yF fa26_7) ?_
  refine sg rfl (yL 3 Tryz.underlying9) ?_
  refine sg rfl (y_bin rfl rfl rfl (fun _ => b_eqls)) ?_
  refine s1 (y_and rfl rfl rfl) ?_
  refine sr 1 ?_
  refine sg rfl (yF fa26_8) ?_
  refine sg rfl (yL 2 Tryz.underlying3) ?_
  refine sg rfl (yF fa26_8) ?_
  refine sg rfl (yL 3 Tryz.underlying3) ?_
  refine sg rfl (y_bin rfl rfl rfl (fun _ => b_eql)) ?_
  refine s1 (y_and rfl rfl rfl) ?_
  refine sr 1 ?_
  refine sgo ?_
  refine tr1 hRb fun w hM => ?_
  exact ⟨rfl, hM.below⟩
theorem eqL_refl {α : Type} {f : α → α → Bool} (h : ∀ a, f a a = true) : ∀ l : List α, eqLB f l l = true
  | [] => rfl
  | a :: r => by rw [eqLB, eqL_refl h r, h]; rfl
/-- the value of a tag -/
def tagV (n : List UInt8) : List STag → List UInt8 × Bool
  | [] => ([], false)
  | t :: r => if t.n = n then (t.v, true) else tagV n r
/-- the words of levels -/
def levels : List (List UInt8) := [[100, 101, 98, 117, 103], [110, 111, 116, 101], [119, 97, 114, 110, 105, 110, 103], [101, 114, 114, 111, 114], [102, 97, 116, 97, 108]]
theorem Levels_any (w : World) :
    Calls Tryz.prog 34 #[] w fun e w' => ∃ A c, e = .returned (.slice A 5 c) ∧ w'.ownsRow w.heap.size 9 1 (.slice A 5 c) 5 (levels.flatMap strE) ∧ Below w.heap.size w w' := by
  refine enter_args (args := []) (F := _) Tryz.func34 rfl Tryz.ntmps34 rfl rfl ?_
  intro Rb hRb hRn
  refine tx ?_
  refine S_nilSlice 0 (e := 9) (size := 1) ?_
  refine sr 1 ?_
  refine sgx ?_
  refine S_buildSlice 1 1 rfl rfl rfl rfl rfl Tryz.underlying53 inf9 rfl (by decide) (by decide) rfl rfl (by decide) rfl (_) rfl ?_
  intro b1
  refine sr 1 ?_
  refine sgo ?_
  refine tr1 hRb fun w hM => ?_
  exact ⟨_, _, rfl, hM.sat 1 _ rfl, hM.below⟩
end Go.Proofs.YtgbldojgbpgjbaaGreatDoor
end
section
namespace Go.Proofs.YtgbldojgbpgjbaaGreatDoor
set_option linter.unusedSimpArgs false
set_option linter.unusedVariables false
set_option maxRecDepth 20000
open Go.RowKit Go.Eng
/-! ### Right -/
section
variable {txt : List UInt8 → Int} {nm : List UInt8 → Bool} {op lo hi : Int} {nk nk' : Nat} {n t : List UInt8}
end
/-! ### Plain -/
end Go.Proofs.YtgbldojgbpgjbaaGreatDoor
end
section
namespace Go.Proofs.YtgbldojgbpgjbaaGreatDoor
set_option linter.unusedSimpArgs false
set_option linter.unusedVariables false
set_option maxRecDepth 20000
open Go.RowKit Go.Eng
theorem fst_0F {a b : Int} (h : fst a b = 0) : a = 0 ∧ b = 0 := by
  unfold fst at h
  split at h
  · exact absurd h ‹_›
  · exact ⟨by omega, h⟩
theorem flts_smallF : ∀ l : List Flt, fltsNo l = 0 → ∀ f ∈ l, fltNo f = 0
  | [], _ => fun f h => by simp at h
  | a :: r, h => fun f hf => by
    rw [fltsNo] at h
    by_cases ha : fltNo a = 0
    · rw [if_neg (by simpa using ha)] at h
      rcases List.mem_cons.1 hf with rfl | h1
      · exact ha
      · exact flts_smallF r h f h1
    · rw [if_pos ha] at h; exact absurd h ha
theorem frms_smallF : ∀ l : List Frm, frmsNo l = 0 → ∀ f ∈ l, frmNo f = 0
  | [], _ => fun f h => by simp at h
  | a :: r, h => fun f hf => by
    rw [frmsNo] at h
    by_cases ha : frmNo a = 0
    · rw [if_neg (by simpa using ha)] at h
      rcases List.mem_cons.1 hf with rfl | h1
      · exact ha
      · exact frms_smallF r h f h1
    · rw [if_pos ha] at h; exact absurd h ha
structure FltS (f : Flt) : Prop where
  k : f.k.length ≤ 2000
  t : f.t.length ≤ 2000
  fr : ∀ x ∈ f.fr.l, x.f.length ≤ 2000 ∧ x.fi.length ≤ 2000
structure EvS (e : Evt) : Prop where
  rel : e.rel.length ≤ 2000
  us : e.us.length ≤ 2000
  ta : ∀ t ∈ e.ta.l, t.v.length ≤ 2000
  fa : ∀ f ∈ e.fa.l, FltS f
theorem frm_small {x : Frm} (h : frmNo x = 0) : x.f.length ≤ 2000 ∧ x.fi.length ≤ 2000 := by
  have hw : wordsNo x.m x.f x.fi = 0 := by
    unfold frmNo at h
    by_cases hw : wordsNo x.m x.f x.fi = 0
    · exact hw
    · rw [if_pos hw] at h; exact absurd h hw
  unfold wordsNo at hw
  split at hw
  · cases hw
  · rename_i hb
    simp only [Bool.or_eq_true, decide_eq_true_eq, not_or] at hb
    omega
theorem flt_small {f : Flt} (h : fltNo f = 0) : FltS f := by
  unfold fltNo at h
  split at h
  · cases h
  rename_i h1
  split at h
  · cases h
  split at h
  · cases h
  by_cases h2 : sayNo f.t = 0
  · rw [if_neg (by simpa using h2)] at h
    refine ⟨by omega, ?_, fun x hx => ?_⟩
    · unfold sayNo at h2
      split at h2
      · cases h2
      · omega
    · unfold framesNo at h
      split at h
      · cases h
      · exact frm_small (frms_smallF _ h x hx)
  · rw [if_pos h2] at h; exact absurd h h2
theorem tags_small : ∀ (l : List STag) (p : Option (List UInt8)), tagsNo p l = 0 → ∀ t ∈ l, t.v.length ≤ 2000
  | [], _, _ => fun t h => by simp at h
  | a :: r, p, h => fun t ht => by
    rw [tagsNo] at h
    split at h
    · cases h
    split at h
    · cases h
    by_cases hv : valNo a.v = 0
    · rw [if_neg (by simpa using hv)] at h
      rcases List.mem_cons.1 ht with rfl | h1
      · unfold valNo at hv
        split at hv
        · cases hv
        · omega
      · exact tags_small r _ h t h1
    · rw [if_pos hv] at h; exact absurd h hv
theorem ev_small {e : Evt} (h : evNo e = 0) : EvS e := by
  unfold evNo at h
  obtain ⟨_, h⟩ := fst_0F h
  obtain ⟨h1, h⟩ := fst_0F h
  obtain ⟨h2, h⟩ := fst_0F h
  obtain ⟨_, h⟩ := fst_0F h
  split at h
  · cases h
  rename_i hr
  obtain ⟨h3, _⟩ := fst_0F h
  refine ⟨?_, ?_, ?_, ?_⟩
  · simp only [Bool.and_eq_true, Bool.not_eq_true', decide_eq_false_iff_not, not_and, Bool.not_eq_false] at hr
    by_cases he : e.rel = []
    · rw [he]; simp
    · have := hr he
      unfold nameOk at this
      simp only [Bool.and_eq_true, decide_eq_true_eq] at this
      omega
  · unfold valNo at h3
    split at h3
    · cases h3
    · omega
  · split at h2
    · cases h2
    · exact tags_small _ _ h2
  · unfold faultsNo at h1
    split at h1
    · cases h1
    split at h1
    · cases h1
    · exact fun f hf => flt_small (flts_smallF _ h1 f hf)
/-- what a leaf asks of an event -/
def lfB (e : Evt) (c : PC) : Bool :=
  if c.op = 4 then inB e.lv c.lo c.hi
  else if c.op = 5 then inB e.at_ c.lo c.hi
  else if c.op = 6 then inB e.wt c.lo c.hi
  else if c.op = 7 ∨ c.op = 8 then (tagV c.name e.ta.l).2 && (decide (c.op = 8) || gm eqL c.text (tagV c.name e.ta.l).1)
  else if c.op = 9 then !decide (e.rel = []) && gm eqL c.text e.rel
  else if c.op = 10 then !decide (e.us = []) && gm eqL c.text e.us
  else if c.op = 11 then e.fa.l.any fun f => gm eqL c.text f.k
  else if c.op = 12 then e.fa.l.any fun f => Lib.contains (f.t.map lowB) (c.text.map lowB)
  else if c.op = 13 then e.fa.l.any fun f => f.fr.l.any fun x => gm eqL c.text x.f
  else e.fa.l.any fun f => f.fr.l.any fun x => gm eqL c.text x.fi
abbrev hoX (e : Evt) (x : SC) : Bool := holdsP (lfB e) x.says
theorem ho1 {e : Evt} {x : SC} (h : x.op = 1) : hoX e x = x.kids.all (hoX e) := by
  show holdsP _ x.says = _
  rw [SC.says_form, holdsP, if_pos h, holdsA_all, List.all_map]; rfl
theorem ho2 {e : Evt} {x : SC} (h : x.op = 2) : hoX e x = x.kids.any (hoX e) := by
  show holdsP _ x.says = _
  rw [SC.says_form, holdsP, if_neg (by omega), if_pos h, holdsO_any, List.any_map]; rfl
section
variable {e : Evt} {x : SC}
end
end Go.Proofs.YtgbldojgbpgjbaaGreatDoor
end
section
namespace Go.Proofs.YtgbldojgbpgjbaaGreatDoor
set_option linter.unusedSimpArgs false
set_option linter.unusedVariables false
set_option maxRecDepth 20000
open Go.RowKit Go.Eng
/-- a block's cells, as they stand for good -/
abbrev CellsAt (w : World) (b : Nat) (cs : List Value) : Prop := (∀ j u, cs[j]? = some u → w.cell? ((⟨b, 0, none⟩ : Addr).add j) = some u) ∧ b < w.heap.size
theorem CellsAt.one {w : World} {b j : Nat} {cs : List Value} {u : Value} (h : CellsAt w b cs) (hj : cs[j]? = some u) : w.cell? ((⟨b, 0, none⟩ : Addr).add j) = some u ∧ ((⟨b, 0, none⟩ : Addr).add j).block < w.heap.size := ⟨h.1 j u hj, by rw [block_of_add]; exact h.2⟩
theorem add_plain (b j : Nat) : (⟨b, 0, none⟩ : Addr).add j = ⟨b, j, none⟩ := by unfold Addr.add; split <;> simp_all
theorem cells_of {w : World} {b : Nat} {cs : List Value} (h : CellsIn b cs w) : CellsAt w b cs := ⟨fun j u hu => by rw [add_plain]; exact h.1 j u hu, h.2⟩
theorem cells_to {w w' : World} {b : Nat} {cs : List Value} (h : CellsAt w b cs) (hb : Below w.heap.size w w') : CellsAt w' b cs := cells_below h hb
/-- a function value with what it has captured -/
structure Fn where
  g : FuncId
  cap : Array Value
abbrev Fn.v (f : Fn) : Value := .func (.func f.g) #[] f.cap
abbrev CfOf (g : FuncId) : Prop := ∀ args w, (callFunc g args).run Tryz.prog w = .ok (.enter g args) w
/-- a function value that asks -/
def AskF {α : Type} (val : α → Value) (ok : World → α → Prop) (f : Fn) (p : α → Bool) (w : World) : Prop :=
  CfOf f.g ∧ ∀ w', Below w.heap.size w w' → ∀ x, ok w' x → Calls Tryz.prog f.g (#[val x] ++ f.cap) w' fun e w'' => e = .returned (.bool (p x)) ∧ Below w'.heap.size w' w''
theorem AskF.below {α : Type} {val : α → Value} {ok : World → α → Prop} {f : Fn} {p : α → Bool} {w w' : World} (h : AskF val ok f p w) (hb : Below w.heap.size w w') : AskF val ok f p w' :=
  ⟨h.1, fun w'' hb2 => h.2 w'' (hb.trans (hb2.mono hb.size))⟩
def FltR (w : World) (f : Flt) : Prop := FltOk w f ∧ FltS f
def FrmR (_ : World) (x : Frm) : Prop := x.f.length ≤ 2000 ∧ x.fi.length ≤ 2000
def EvRf (w : World) (e : Evt) : Prop := e.Ok w ∧ EvS e
theorem IndexFF_any (A : Option Addr) (q c : Nat) (l : List Flt) (g : FuncId) (cap : Array Value) (p : Flt → Bool) (w : World) (hl : SlT Flt.enc 3 w A q l) (hq : q ≤ 4611686018427387904) (hcf : ∀ args w, (callFunc g args).run Tryz.prog w = .ok (.enter g args) w)
    (hA : ∀ x ∈ l, ∀ w', Below w.heap.size w w' → Calls Tryz.prog g (#[x.val] ++ cap) w' fun e w'' => e = .returned (.bool (p x)) ∧ Below w'.heap.size w' w'') :
    Calls Tryz.prog 191 #[.slice A q c, .func (.func g) #[] cap] w fun e w' => e = .returned (.int .i64 (fndP p l 0)) ∧ Below w.heap.size w w' := by
  refine enter_args (args := [.slice A q c, .func (.func g) #[] cap]) (F := _) Tryz.func191 rfl Tryz.ntmps191 rfl rfl ?_
  intro Rb hRb hRn
  refine tx ?_
  refine sr 1 ?_
  refine sgs ?_
  refine tx ?_
  refine sr 1 ?_
  refine s1 (y_len_slice rfl rfl Tryz.underlying22) ?_
  refine sr 1 ?_
  refine sgo ?_
  refine T_block ?_
  refine lK1 (kf := [(4, 5), (8, 18)]) (kl := [(4, 5), (8, 18)]) (fun (i : Nat) => [(8, true, .int .i64 (i : Int))]) (fun (i : Nat) => []) (fun (i : Nat) => i ≤ q ∧ fndP p l 0 = fndP p (l.drop i) i) (fun (i : Nat) => q - i) 0 ?_ ?_ ?_ ?_
  · exact ⟨by omega, rfl⟩
  · exact ⟨rfl, trivial⟩
  · exact trivial
  rintro i ⟨hp1, hp2⟩
  refine tx ?_
  refine sr 1 ?_
  refine sgs ?_
  refine T_cond rfl ?_ ?_ <;> intro h9
  · try simp only [nrm] at h9
    obtain ⟨x, hx1, hx2⟩ := hl.at (i := i) (by omega)
    refine kgs ?_
    refine T_block ?_
    refine tx ?_
    refine sr 2 ?_
    refine sgx ?_
    refine sr 3 ?_
    refine s1 (y_indexAddr rfl rfl rfl Tryz.underlying22 sz36 (fun hg => hl.isSome (by omega)) (fun _ => by omega)) ?_
    refine s1 (y_loadT rfl rfl hl (fun _ => rfl) (fun _ => hx1) Tryz.underlying36 rfl sz36) ?_
    refine s1 (y_call rfl rfl rfl hcf (fun _ w hM => hA x (mem_at hx1) w hM.below)) ?_
    refine sgo ?_
    refine T_cond rfl ?_ ?_ <;> intro h16
    · skip
      refine tx ?_
      refine sr 2 ?_
      refine sgo ?_
      refine tr1 hRb fun w hM => ?_
      exact ⟨by rw [hp2, hx2, fndP, if_pos h16], hM.below⟩
    refine kgr ?_
    refine s1 (y_bin rfl rfl rfl (fun hg => b_add (by omega))) ?_
    refine sr 1 ?_
    refine S_nil (nK1 (kf := [(4, 5), (8, 18)]) (kl := [(4, 5), (8, 18)]) (i + 1) ?_ ?_ ?_ ?_)
    · omega
    · exact ⟨by omega, by rw [hp2, hx2, fndP, if_neg (by simp [h16])]⟩
    · exact ⟨rfl, trivial⟩
    · exact trivial
  try simp only [nrm] at h9
  refine egx ?_
  refine sr 1 ?_
  refine sgo ?_
  refine tr1 hRb fun w hM => ?_
  exact ⟨by rw [hp2, hl.end (by omega)]; rfl, hM.below⟩
theorem ContFF_any (A : Option Addr) (q c : Nat) (l : List Flt) (g : FuncId) (cap : Array Value) (p : Flt → Bool) (w : World) (hl : SlT Flt.enc 3 w A q l) (hq : q ≤ 4611686018427387904) (hcf : ∀ args w, (callFunc g args).run Tryz.prog w = .ok (.enter g args) w)
    (hA : ∀ x ∈ l, ∀ w', Below w.heap.size w w' → Calls Tryz.prog g (#[x.val] ++ cap) w' fun e w'' => e = .returned (.bool (p x)) ∧ Below w'.heap.size w' w'') :
    Calls Tryz.prog 97 #[.slice A q c, .func (.func g) #[] cap] w fun e w' => e = .returned (.bool (l.any p)) ∧ Below w.heap.size w w' := by
  rw [← fndP_any p l 0]
  refine enter_args (args := [.slice A q c, .func (.func g) #[] cap]) (F := _) Tryz.func97 rfl Tryz.ntmps97 rfl rfl ?_
  intro Rb hRb hRn
  refine tx ?_
  refine sr 1 ?_
  refine sgx ?_
  refine sr 2 ?_
  refine s1 (y_call rfl rfl rfl cf191 (fun _ w hM => IndexFF_any A q c l g cap p w (hl.below hM.below) hq hcf fun x hx w1 hb => hA x hx w1 (hM.below.trans (hb.mono hM.below.size)))) ?_
  refine sr 2 ?_
  refine sgo ?_
  refine tr1 hRb fun w hM => ?_
  exact ⟨rfl, hM.below⟩
theorem IndexFR_any (A : Option Addr) (q c : Nat) (l : List Frm) (g : FuncId) (cap : Array Value) (p : Frm → Bool) (w : World) (hl : SlT Frm.enc 6 w A q l) (hq : q ≤ 4611686018427387904) (hcf : ∀ args w, (callFunc g args).run Tryz.prog w = .ok (.enter g args) w)
    (hA : ∀ x ∈ l, ∀ w', Below w.heap.size w w' → Calls Tryz.prog g (#[x.val] ++ cap) w' fun e w'' => e = .returned (.bool (p x)) ∧ Below w'.heap.size w' w'') :
    Calls Tryz.prog 192 #[.slice A q c, .func (.func g) #[] cap] w fun e w' => e = .returned (.int .i64 (fndP p l 0)) ∧ Below w.heap.size w w' := by
  refine enter_args (args := [.slice A q c, .func (.func g) #[] cap]) (F := _) Tryz.func192 rfl Tryz.ntmps192 rfl rfl ?_
  intro Rb hRb hRn
  refine tx ?_
  refine sr 1 ?_
  refine sgs ?_
  refine tx ?_
  refine sr 1 ?_
  refine s1 (y_len_slice rfl rfl Tryz.underlying32) ?_
  refine sr 1 ?_
  refine sgo ?_
  refine T_block ?_
  refine lK1 (kf := [(4, 5), (8, 18)]) (kl := [(4, 5), (8, 18)]) (fun (i : Nat) => [(8, true, .int .i64 (i : Int))]) (fun (i : Nat) => []) (fun (i : Nat) => i ≤ q ∧ fndP p l 0 = fndP p (l.drop i) i) (fun (i : Nat) => q - i) 0 ?_ ?_ ?_ ?_
  · exact ⟨by omega, rfl⟩
  · exact ⟨rfl, trivial⟩
  · exact trivial
  rintro i ⟨hp1, hp2⟩
  refine tx ?_
  refine sr 1 ?_
  refine sgs ?_
  refine T_cond rfl ?_ ?_ <;> intro h9
  · try simp only [nrm] at h9
    obtain ⟨x, hx1, hx2⟩ := hl.at (i := i) (by omega)
    refine kgs ?_
    refine T_block ?_
    refine tx ?_
    refine sr 2 ?_
    refine sgx ?_
    refine sr 3 ?_
    refine s1 (y_indexAddr rfl rfl rfl Tryz.underlying32 sz45 (fun hg => hl.isSome (by omega)) (fun _ => by omega)) ?_
    refine s1 (y_loadT rfl rfl hl (fun _ => rfl) (fun _ => hx1) Tryz.underlying45 rfl sz45) ?_
    refine s1 (y_call rfl rfl rfl hcf (fun _ w hM => hA x (mem_at hx1) w hM.below)) ?_
    refine sgo ?_
    refine T_cond rfl ?_ ?_ <;> intro h16
    · skip
      refine tx ?_
      refine sr 2 ?_
      refine sgo ?_
      refine tr1 hRb fun w hM => ?_
      exact ⟨by rw [hp2, hx2, fndP, if_pos h16], hM.below⟩
    refine kgr ?_
    refine s1 (y_bin rfl rfl rfl (fun hg => b_add (by omega))) ?_
    refine sr 1 ?_
    refine S_nil (nK1 (kf := [(4, 5), (8, 18)]) (kl := [(4, 5), (8, 18)]) (i + 1) ?_ ?_ ?_ ?_)
    · omega
    · exact ⟨by omega, by rw [hp2, hx2, fndP, if_neg (by simp [h16])]⟩
    · exact ⟨rfl, trivial⟩
    · exact trivial
  try simp only [nrm] at h9
  refine egx ?_
  refine sr 1 ?_
  refine sgo ?_
  refine tr1 hRb fun w hM => ?_
  exact ⟨by rw [hp2, hl.end (by omega)]; rfl, hM.below⟩
theorem ContFR_any (A : Option Addr) (q c : Nat) (l : List Frm) (g : FuncId) (cap : Array Value) (p : Frm → Bool) (w : World) (hl : SlT Frm.enc 6 w A q l) (hq : q ≤ 4611686018427387904) (hcf : ∀ args w, (callFunc g args).run Tryz.prog w = .ok (.enter g args) w)
    (hA : ∀ x ∈ l, ∀ w', Below w.heap.size w w' → Calls Tryz.prog g (#[x.val] ++ cap) w' fun e w'' => e = .returned (.bool (p x)) ∧ Below w'.heap.size w' w'') :
    Calls Tryz.prog 100 #[.slice A q c, .func (.func g) #[] cap] w fun e w' => e = .returned (.bool (l.any p)) ∧ Below w.heap.size w w' := by
  rw [← fndP_any p l 0]
  refine enter_args (args := [.slice A q c, .func (.func g) #[] cap]) (F := _) Tryz.func100 rfl Tryz.ntmps100 rfl rfl ?_
  intro Rb hRb hRn
  refine tx ?_
  refine sr 1 ?_
  refine sgx ?_
  refine sr 2 ?_
  refine s1 (y_call rfl rfl rfl cf192 (fun _ w hM => IndexFR_any A q c l g cap p w (hl.below hM.below) hq hcf fun x hx w1 hb => hA x hx w1 (hM.below.trans (hb.mono hM.below.size)))) ?_
  refine sr 2 ?_
  refine sgo ?_
  refine tr1 hRb fun w hM => ?_
  exact ⟨rfl, hM.below⟩
theorem ContFF_ask {l : Sl Flt} {f : Fn} {p : Flt → Bool} {w : World} (hl : FltsOk w l) (hs : ∀ f ∈ l.l, FltS f) (hv : AskF Flt.val FltR f p w) :
    Calls Tryz.prog 97 #[.slice l.A l.q l.c, .func (.func f.g) #[] f.cap] w fun e w' => e = .returned (.bool (l.l.any p)) ∧ Below w.heap.size w w' :=
  ContFF_any l.A l.q l.c l.l f.g f.cap p w hl.ok.t hl.q hv.1 fun x hx w' hb => hv.2 w' hb x ⟨(hl.n x hx).below hb, hs x hx⟩
theorem ContFR_ask {l : Sl Frm} {f : Fn} {p : Frm → Bool} {w : World} (hl : FrmsOk w l) (hs : ∀ x ∈ l.l, x.f.length ≤ 2000 ∧ x.fi.length ≤ 2000) (hv : AskF Frm.val FrmR f p w) :
    Calls Tryz.prog 100 #[.slice l.A l.q l.c, .func (.func f.g) #[] f.cap] w fun e w' => e = .returned (.bool (l.l.any p)) ∧ Below w.heap.size w w' :=
  ContFR_any l.A l.q l.c l.l f.g f.cap p w hl.ok.t hl.q hv.1 fun x hx w' hb => hv.2 w' hb x (hs x hx)
end Go.Proofs.YtgbldojgbpgjbaaGreatDoor
end
section
namespace Go.Proofs.YtgbldojgbpgjbaaGreatDoor
set_option linter.unusedSimpArgs false
set_option linter.unusedVariables false
set_option maxRecDepth 20000
open Go.RowKit Go.Eng
abbrev ptF (b : Nat) : Value := .pointer (some ⟨b, 0, none⟩)
abbrev Cell1 (w : World) (b : Nat) (v : Value) : Prop := w.cell? ⟨b, 0, none⟩ = some v ∧ b < w.heap.size
theorem cell1_of {w : World} {b : Nat} {v : Value} (h : CellsIn b [v] w) : Cell1 w b v := ⟨h.1 0 v rfl, h.2⟩
/-! ### Of an event: a number between two -/
/-! ### Of an event: a tag, the release, the user -/
/-! ### Of a fault, of a frame -/
theorem tFunc_any (x : SC) (b : Nat) (y : Frm) (w : World) (hs : y.f.length ≤ 2000 ∧ y.fi.length ≤ 2000) (ht : x.tx.length ≤ 200) (h : CellsAt w b x.enc) :
    Calls Tryz.prog 120 #[y.val, ptF b] w fun en w' => en = .returned (.bool (gm eqL x.tx y.f)) ∧ Below w.heap.size w w' := by
  refine enter_args (args := [.agg #[str y.m, str y.f, str y.fi, .int .i64 y.ln, .int .i64 y.ad, .bool y.own], ptF b]) (F := _) Tryz.func120 rfl Tryz.ntmps120 rfl rfl ?_
  intro Rb hRb hRn
  refine tx ?_
  refine S_box 2 2 rfl rfl rfl rfl rfl ?_
  intro b2
  refine sr 1 ?_
  refine sgx ?_
  refine s1 (yF fa50_5) ?_
  refine s1 (y_load_far rfl rfl (h.one (j := 5) rfl).1 (h.one (j := 5) (cs := x.enc) rfl).2 Tryz.underlying9 rfl) ?_
  refine s1 (yF fa45_1) ?_
  refine s1 (yL 2 Tryz.underlying9) ?_
  refine s1 (y_call rfl rfl rfl cf19 (fun _ w _ => Fits_any _ _ w (by omega) (by omega))) ?_
  refine sr 1 ?_
  refine sgo ?_
  refine tr1 hRb fun w hM => ?_
  exact ⟨rfl, hM.below⟩
theorem askFunc {x : SC} {b : Nat} {w : World} (ht : x.tx.length ≤ 200) (h : CellsAt w b x.enc) : AskF Frm.val FrmR ⟨120, #[ptF b]⟩ (fun y => gm eqL x.tx y.f) w :=
  ⟨cf120, fun w' hb y hy => tFunc_any x b y w' hy ht (cells_to h hb)⟩
/-! ### Any fault, any frame -/
theorem tfault_any (v : Fn) (p : Flt → Bool) (b : Nat) (e : Evt) (w : World) (he : e.Ok w) (hs : EvS e) (h : Cell1 w b v.v) (hv : AskF Flt.val FltR v p w) :
    Calls Tryz.prog 96 #[e.val, ptF b] w fun en w' => en = .returned (.bool (e.fa.l.any p)) ∧ Below w.heap.size w w' := by
  refine enter_args (args := [.agg #[str e.id, .int .i64 e.at_, .int .i64 e.lv, .slice e.fa.A e.fa.q e.fa.c, .slice e.ta.A e.ta.q e.ta.c, .slice e.cr.A e.cr.q e.cr.c, str e.rel, str e.us, .int .i64 e.wt], ptF b]) (F := _) Tryz.func96 rfl Tryz.ntmps96 rfl rfl ?_
  intro Rb hRb hRn
  refine tx ?_
  refine S_box 2 2 rfl rfl rfl rfl rfl ?_
  intro b2
  refine sr 1 ?_
  refine sgx ?_
  refine s1 (yF fa26_3) ?_
  refine s1 (yL 2 Tryz.underlying22) ?_
  refine s1 (y_load_far rfl rfl h.1 h.2 Tryz.underlying151 rfl) ?_
  refine s1 (y_call rfl rfl rfl cf97 (fun _ w hM => ContFF_ask (he.fa.below hM.below) hs.fa (hv.below hM.below))) ?_
  refine sr 1 ?_
  refine sgo ?_
  refine tr1 hRb fun w hM => ?_
  exact ⟨rfl, hM.below⟩
theorem askFault {v : Fn} {p : Flt → Bool} {b : Nat} {w : World} (h : Cell1 w b v.v) (hv : AskF Flt.val FltR v p w) : AskF Evt.val EvRf ⟨96, #[ptF b]⟩ (fun e => e.fa.l.any p) w :=
  ⟨cf96, fun w' hb e he => tfault_any v p b e w' he.1 he.2 (cellK h hb) (hv.below hb)⟩
theorem tframe_any (v : Fn) (p : Frm → Bool) (b : Nat) (f : Flt) (w : World) (hf : FltOk w f) (hs : FltS f) (h : Cell1 w b v.v) (hv : AskF Frm.val FrmR v p w) :
    Calls Tryz.prog 99 #[f.val, ptF b] w fun en w' => en = .returned (.bool (f.fr.l.any p)) ∧ Below w.heap.size w w' := by
  refine enter_args (args := [.agg #[str f.k, str f.t, .slice f.fr.A f.fr.q f.fr.c], ptF b]) (F := _) Tryz.func99 rfl Tryz.ntmps99 rfl rfl ?_
  intro Rb hRb hRn
  refine tx ?_
  refine S_box 2 2 rfl rfl rfl rfl rfl ?_
  intro b2
  refine sr 1 ?_
  refine sgx ?_
  refine s1 (yF fa36_2) ?_
  refine s1 (yL 2 Tryz.underlying32) ?_
  refine s1 (y_load_far rfl rfl h.1 h.2 Tryz.underlying154 rfl) ?_
  refine s1 (y_call rfl rfl rfl cf100 (fun _ w hM => ContFR_ask (hf.fr.below hM.below) hs.fr (hv.below hM.below))) ?_
  refine sr 1 ?_
  refine sgo ?_
  refine tr1 hRb fun w hM => ?_
  exact ⟨rfl, hM.below⟩
theorem askFrame {v : Fn} {p : Frm → Bool} {b : Nat} {w : World} (h : Cell1 w b v.v) (hv : AskF Frm.val FrmR v p w) : AskF Flt.val FltR ⟨99, #[ptF b]⟩ (fun f => f.fr.l.any p) w :=
  ⟨cf99, fun w' hb f hf => tframe_any v p b f w' hf.1 hf.2 (cellK h hb) (hv.below hb)⟩
/-! ### And, Or, Not -/
end Go.Proofs.YtgbldojgbpgjbaaGreatDoor
end
section
namespace Go.Proofs.YtgbldojgbpgjbaaGreatDoor
set_option linter.unusedSimpArgs false
set_option linter.unusedVariables false
set_option maxRecDepth 20000
open Go.RowKit Go.Eng
structure FnR where
  fn : Fn
  rs : List Row
abbrev FnR.v (z : FnR) : Value := .func (.func z.fn.g) #[] z.fn.cap
/-- what is returned asks p, where C holds; it stands on rows -/
structure FnOk {α : Type} (val : α → Value) (ok : World → α → Prop) (w0 : World) (rs : List Row) (C : World → Prop) (p : α → Bool) (z : FnR) : Prop where
  cf : CfOf z.fn.g
  more : ∀ r ∈ rs, r ∈ z.rs
  sees : Sees w0 z.rs fun w => C w → AskF val ok z.fn p w
theorem in_l {a b : List Row} {r : Row} (h : r ∈ a) : r ∈ a ++ b := List.mem_append_left _ h
theorem in_r {a : List Row} {r : Row} : r ∈ a ++ [r] := List.mem_append_right _ (List.mem_singleton.2 rfl)
theorem test1_any {w0 : World} {K : HL} (hK : FromK K) (rs : List Row) (C : World → Prop) (f : Fn) (p : Flt → Bool) (hv : Sees w0 rs fun w => C w → AskF Flt.val FltR f p w) (w : World) (hM0 : Mem w0 ([(900, .many rs)] ++ K) w) :
    Calls Tryz.prog 95 #[.func (.func f.g) #[] f.cap] w fun e w' => ∃ z : FnR, e = .returned z.v ∧ FnOk Evt.val EvRf w0 rs C (fun e => e.fa.l.any p) z ∧ Mem w0 ([(900, .many z.rs)] ++ K) w' := by
  refine enterM_args (args := [.func (.func f.g) #[] f.cap]) (F := _) hM0 Tryz.func95 rfl Tryz.ntmps95 rfl rfl ?_
  intro Rb hRb hRn
  refine tx ?_
  refine S_box 1 1 rfl rfl rfl rfl rfl ?_
  intro b1
  refine sr 1 ?_
  refine sgx ?_
  refine s1 (y_makeFunc rfl rfl rfl rfl rfl) ?_
  refine sr 1 ?_
  refine sgo ?_
  refine tr1 hRb fun w hM => ?_
  have hM := hM.boxRow (i := 1) rfl
  have hM := hM.bankK (ks := [(1, 1), (900, 900)]) (m := 900) (i := 1) rfl rfl rfl (by repeat (first | exact kl_nil | exact kl_rest (by assumption) rfl | (apply kl_in; focus rfl) | (apply kl_out; focus rfl))) rfl
  exact ⟨⟨⟨96, #[ptF b1]⟩, _⟩, rfl, ⟨cf96, fun r h => in_l h, fun w hb hr hC => askFault (cell1_of (row_cells (hr _ in_r))) (hv w hb (fun r h => hr r (in_l h)) hC)⟩, hM.keep (ks := [(0, 999)]) (by repeat (first | exact kl_rest (by assumption) rfl | (apply kl_in; focus rfl))) _ ⟨rfl, trivial⟩⟩
theorem test2_any {w0 : World} {K : HL} (hK : FromK K) (rs : List Row) (C : World → Prop) (f : Fn) (p : Frm → Bool) (b3 : Nat) (hv : Sees w0 rs fun w => C w → AskF Frm.val FrmR f p w) (w : World)
    (hM0 : Mem w0 ([(901, .blk b3 (IsBox [.func (.func 95) #[] #[]] 153)), (900, .many rs)] ++ K) w) :
    Calls Tryz.prog 98 #[.func (.func f.g) #[] f.cap, ptF b3] w fun e w' => ∃ z : FnR, e = .returned z.v ∧ FnOk Evt.val EvRf w0 rs C (fun e => e.fa.l.any fun f => f.fr.l.any p) z ∧ Mem w0 ([(901, .blk b3 (IsBox [.func (.func 95) #[] #[]] 153)), (900, .many z.rs)] ++ K) w' := by
  refine enterM_args (args := [.func (.func f.g) #[] f.cap, ptF b3]) (F := _) hM0 Tryz.func98 rfl Tryz.ntmps98 rfl rfl ?_
  intro Rb hRb hRn
  refine tx ?_
  refine S_box 2 2 rfl rfl rfl rfl rfl ?_
  intro b2
  refine sr 1 ?_
  refine sgx ?_
  refine s1 (yL 901 Tryz.underlying153) ?_
  refine s1 (y_makeFunc rfl rfl rfl rfl rfl) ?_
  refine S_callM 6 [(900, 900)] (X := FnR) rfl rfl rfl rfl rfl rfl rfl cf95 rfl (fun z => z.v) (FnOk Evt.val EvRf w0 rs (fun w => Cell1 w b2 f.v ∧ C w) (fun e => e.fa.l.any fun f => f.fr.l.any p)) (fun z => [(900, .many z.rs)]) (fun _ => rfl) (fun _ => rfl) (fun K hK w hM => test1_any hK rs (fun w => Cell1 w b2 f.v ∧ C w) ⟨99, #[ptF b2]⟩ (fun f => f.fr.l.any p) (fun w hb hr hC => askFrame hC.1 (hv w hb hr hC.2)) w hM) ?_
  intro x6 hx6
  refine sr 1 ?_
  refine sgo ?_
  refine tr1 hRb fun w hM => ?_
  have hM := hM.boxRow (i := 2) rfl
  have hM := hM.bankK (ks := [(2, 2), (900, 900)]) (m := 900) (i := 2) rfl rfl rfl (by repeat (first | exact kl_nil | exact kl_rest (by assumption) rfl | (apply kl_in; focus rfl) | (apply kl_out; focus rfl))) rfl
  exact ⟨⟨x6.fn, x6.rs ++ [boxRow 154 b2 [f.v]]⟩, rfl, ⟨hx6.cf, fun r h => in_l (hx6.more r h), fun w hb hr hC => hx6.sees w hb (fun r h => hr r (in_l h)) ⟨cell1_of (row_cells (hr _ in_r)), hC⟩⟩, hM.keep (ks := [(0, 999)]) (by repeat (first | exact kl_rest (by assumption) rfl | (apply kl_in; focus rfl))) _ ⟨rfl, rfl, trivial⟩⟩
theorem z153 : ∀ w, (zeroValue 153).run Tryz.prog w = .ok .nilFunc w := fun _ => by kernel_rfl
end Go.Proofs.YtgbldojgbpgjbaaGreatDoor
end
section
namespace Go.Proofs.YtgbldojgbpgjbaaGreatDoor
set_option linter.unusedSimpArgs false
set_option linter.unusedVariables false
set_option maxRecDepth 20000
open Go.RowKit Go.Eng
def leafF (t : List UInt8) : SC := .mk 13 none 0 0 [] 0 0 [] t
theorem leaf_ok {w : World} {t : List UInt8} (ht : t.length ≤ 4611686018427387904) : (leafF t).Ok w :=
  .mk ⟨⟨⟨by simp, fun h => by simp at h⟩, rfl⟩, Nat.le_refl _⟩ (Nat.zero_le _) (Nat.zero_le _) (Nat.zero_le _) ht (fun k hk => (by cases hk))
theorem txt_leaf {t : List UInt8} (h0 : t ≠ []) (h1 : t.length ≤ 200) (h2 : t.any badC = false) : txtNo t = 0 := by
  unfold txtNo
  simp only [h0, h2, if_false, Bool.false_eq_true]
  exact if_neg (by omega)
theorem cond_leaf {t : List UInt8} (h : txtNo t = 0) : condNo (leafF t) = 0 := by
  have a1 : inB (leafF t).op 1 14 = true := rfl
  have a2 : f2B (leafF t) = false := rfl
  have a3 : (rngB (leafF t).op && r1B (leafF t)) = false := rfl
  have a4 : (rngB (leafF t).op && decide ((leafF t).hi < (leafF t).lo)) = false := rfl
  have a5 : (nmdB (leafF t).op && !nameOk (leafF t).nm) = false := rfl
  have a6 : wrdB (leafF t).op = true := rfl
  have a7 : f1B (leafF t) = false := by
    have e : f1B (leafF t) = (false || (!decide (t = []) && false)) := rfl
    rw [e]; simp
  have hh : hdXf (leafF t) = 0 := by
    rw [hd_def, if_neg (by rw [a1]; decide), if_neg (by rw [a7]; decide), if_neg (by rw [a2]; decide), if_neg (by rw [a3]; decide), if_neg (by rw [a4]; decide), if_neg (by rw [a5]; decide), if_pos a6]
    exact h
  have b1 : deepP 20 (leafF t).says = false := by rw [leafF, SC.says_mk]; rfl
  have b2 : sizeP (leafF t).says 100 = 1 := by rw [leafF, SC.says_mk]; rfl
  rw [condNo, if_neg (by rw [b1]; decide), if_neg (by rw [b2]; decide), chX_kids hh]
  rfl
def fndF (e : Evt) (t : List UInt8) : Bool := e.fa.l.any fun f => f.fr.l.any fun y => gm eqL t y.f
theorem testF_any {w0 : World} {K : HL} (hK : FromK K) (rs : List Row) (t : List UInt8) (ht : t.length ≤ 200) (w : World) (hM0 : Mem w0 ([(900, .many rs)] ++ K) w) :
    Calls Tryz.prog 45 #[(leafF t).val] w fun e w' => ∃ z : FnR, e = .returned z.v ∧ FnOk Evt.val EvRf w0 rs (fun _ => True) (fun e => fndF e t) z ∧ Mem w0 ([(900, .many z.rs)] ++ K) w' := by
  refine enterM_args (args := [.agg #[.int .i64 13, .slice none 0 0, .int .i64 0, .int .i64 0, str [], str t]]) (F := _) hM0 Tryz.func45 rfl Tryz.ntmps45 rfl rfl ?_
  intro Rb hRb hRn
  refine tx ?_
  refine S_box 1 1 rfl rfl rfl rfl rfl ?_
  intro b1
  refine sr 1 ?_
  refine sgx ?_
  refine S_alloc 3 3 rfl rfl rfl rfl z153 ?_
  intro b3
  refine S_store 3 rfl rfl rfl rfl rfl rfl sz153 rfl rfl ?_
  refine sgx ?_
  refine s1 (y_makeFunc rfl rfl rfl rfl rfl) ?_
  refine sr 1 ?_
  refine sgx ?_
  refine s1 (y_makeFunc rfl rfl rfl rfl rfl) ?_
  refine sr 1 ?_
  refine sgx ?_
  refine S_alloc 6 6 rfl rfl rfl rfl z159 ?_
  intro b6
  refine sgs ?_
  refine tx ?_
  refine s1 (yF fa50_1) ?_
  refine s1 (yL 1 Tryz.underlying48) ?_
  refine s1 (y_len_slice rfl rfl Tryz.underlying48) ?_
  refine sr 1 ?_
  refine sgo ?_
  refine T_block ?_
  refine lK1 (kf := [(8, 8), (15, 24)]) (kl := [(8, 8), (15, 24)]) (fun (i : Nat) => [(15, true, .int .i64 (i : Int))]) (fun (i : Nat) => []) (fun (i : Nat) => i ≤ 0) (fun (i : Nat) => 0) 0 ?_ ?_ ?_ ?_
  · omega
  · exact ⟨rfl, trivial⟩
  · exact trivial
  rintro i hp1
  refine tx ?_
  refine sr 1 ?_
  refine sgs ?_
  refine T_cond rfl ?_ ?_ <;> intro h16
  · try simp only [nrm] at h16
    omega
  try simp only [nrm] at h16
  refine egs ?_
  refine tx ?_
  refine s1 (yF fa50_0) ?_
  refine s1 (yL 1 Tryz.underlying3) ?_
  refine sgo ?_
  refine T_block ?_
  refine tx ?_
  refine sr 2 ?_
  refine sgo ?_
  refine T_cond rfl ?_ ?_ <;> intro h27
  · skip
    exact absurd h27 (by decide)
  refine tx ?_
  refine sr 2 ?_
  refine sgo ?_
  refine T_cond rfl ?_ ?_ <;> intro h30
  · skip
    exact absurd h30 (by decide)
  refine tx ?_
  refine sr 2 ?_
  refine sgo ?_
  refine T_cond rfl ?_ ?_ <;> intro h33
  · skip
    exact absurd h33 (by decide)
  refine tx ?_
  refine sr 2 ?_
  refine sgo ?_
  refine T_cond rfl ?_ ?_ <;> intro h36
  · skip
    exact absurd h36 (by decide)
  refine tx ?_
  refine sr 2 ?_
  refine sgo ?_
  refine T_cond rfl ?_ ?_ <;> intro h40
  · skip
    exact absurd h40 (by decide)
  refine tx ?_
  refine sr 2 ?_
  refine sgo ?_
  refine T_cond rfl ?_ ?_ <;> intro h44
  · skip
    exact absurd h44 (by decide)
  refine T_seq ?_
  refine tx ?_
  refine sr 2 ?_
  refine sgo ?_
  refine T_cond rfl ?_ ?_ <;> intro h48
  · skip
    exact absurd h48 (by decide)
  refine T_region ?_
  refine sr 2 ?_
  refine sgo ?_
  refine T_cond rfl ?_ ?_ <;> intro h48
  · skip
    exact absurd h48 (by decide)
  refine tx ?_
  refine sr 2 ?_
  refine sgo ?_
  refine T_cond rfl ?_ ?_ <;> intro h52
  · skip
    exact absurd h52 (by decide)
  refine tx ?_
  refine sr 2 ?_
  refine sgo ?_
  refine T_cond rfl ?_ ?_ <;> intro h55
  · skip
    exact absurd h55 (by decide)
  refine tx ?_
  refine sr 2 ?_
  refine sgo ?_
  refine T_cond rfl ?_ ?_ <;> intro h58
  · skip
    exact absurd h58 (by decide)
  refine tx ?_
  refine sr 2 ?_
  refine sgo ?_
  refine T_cond rfl ?_ ?_ <;> intro h63
  · skip
    exact absurd h63 (by decide)
  refine tx ?_
  refine sr 2 ?_
  refine sgo ?_
  refine T_cond rfl ?_ ?_ <;> intro h71
  · skip
    refine tx ?_
    refine sr 1 ?_
    refine s1 (y_makeFunc rfl rfl rfl rfl rfl) ?_
    refine S_callM 75 [(901, 3), (900, 900)] (X := FnR) rfl rfl rfl rfl rfl rfl rfl cf98 rfl (fun z => z.v) (FnOk Evt.val EvRf w0 rs (fun w => CellsAt w b1 (leafF t).enc) (fun e => e.fa.l.any fun f => f.fr.l.any fun y => gm eqL t y.f)) (fun z => [(901, .blk b3 (IsBox [.func (.func 95) #[] #[]] 153)), (900, .many z.rs)]) (fun _ => rfl) (fun _ => rfl) (fun K hK w hM => test2_any hK rs (fun w => CellsAt w b1 (leafF t).enc) ⟨120, #[ptF b1]⟩ (fun y => gm eqL t y.f) b3 (fun w _ _ hC => askFunc (x := leafF t) ht hC) w hM) ?_
    intro x75 hx75
    refine sr 1 ?_
    refine sgo ?_
    refine tr1 hRb fun w hM => ?_
    have hM := hM.boxRow (i := 1) rfl
    have hM := hM.bankK (ks := [(1, 1), (900, 900)]) (m := 900) (i := 1) rfl rfl rfl (by repeat (first | exact kl_nil | exact kl_rest (by assumption) rfl | (apply kl_in; focus rfl) | (apply kl_out; focus rfl))) rfl
    exact ⟨⟨x75.fn, x75.rs ++ [boxRow 50 b1 (leafF t).enc]⟩, rfl, ⟨hx75.cf, fun r h => in_l (hx75.more r h), fun w hb hr _ => hx75.sees w hb (fun r h => hr r (in_l h)) (cells_of (row_cells (hr _ in_r)))⟩, hM.keep (ks := [(0, 999)]) (by repeat (first | exact kl_rest (by assumption) rfl | (apply kl_in; focus rfl))) _ ⟨rfl, trivial⟩⟩
  exact absurd h71 (by decide)
theorem HoldsF_any (t : List UInt8) (e : Evt) (w : World) (h0 : t ≠ []) (h1 : t.length ≤ 200) (h2 : t.any badC = false) (he : e.Ok w) (hev : evNo e = 0) :
    Calls Tryz.prog 13 #[(leafF t).val, e.val] w fun en w' => en = .returned (.tuple #[.bool (fndF e t), .int .i64 0]) ∧ Below w.heap.size w w' := by
  have hc := cond_leaf (txt_leaf h0 h1 h2)
  refine enter_args (args := [.agg #[.int .i64 13, .slice none 0 0, .int .i64 0, .int .i64 0, str [], str t], .agg #[str e.id, .int .i64 e.at_, .int .i64 e.lv, .slice e.fa.A e.fa.q e.fa.c, .slice e.ta.A e.ta.q e.ta.c, .slice e.cr.A e.cr.q e.cr.c, str e.rel, str e.us, .int .i64 e.wt]]) (F := _) Tryz.func13 rfl Tryz.ntmps13 rfl rfl ?_
  intro Rb hRb hRn
  refine T_many0 900 ?_
  refine tx ?_
  refine S_box 2 2 rfl rfl rfl rfl rfl ?_
  intro b2
  refine S_box 3 3 rfl rfl rfl rfl rfl ?_
  intro b3
  refine sr 2 ?_
  refine sgs ?_
  refine tx ?_
  refine s1 (yA 2 rfl Tryz.underlying50 sz50) ?_
  refine s1 (y_as (v' := .int .i64 0) (by rw [hc]) (y_call rfl rfl rfl cf44 (fun _ w1 hM => CheckCond_any (leafF t) w1 (leaf_ok (Nat.le_trans h1 (by decide)))))) ?_
  refine sr 1 ?_
  refine sgx ?_
  refine sr 2 ?_
  refine sgo ?_
  refine T_cond rfl ?_ ?_ <;> intro h11
  · skip
    exact absurd h11 (by decide)
  refine kgs ?_
  refine tx ?_
  refine s1 (yA 3 rfl Tryz.underlying26 sz26) ?_
  refine s1 (y_as (v' := .int .i64 0) (by rw [hev]) (y_call rfl rfl rfl cf6 (fun _ w1 hM => Check_any e w1 (he.below hM.below)))) ?_
  refine sr 1 ?_
  refine sgx ?_
  refine sr 2 ?_
  refine sgo ?_
  refine T_cond rfl ?_ ?_ <;> intro h16
  · skip
    exact absurd h16 (by decide)
  refine kgs ?_
  refine T_perm [0, 2, 1, 3, 4, 5] [true, false, true, false, true, true] [0, 1, 0, 7, 15, 31] [(0, [2]), (2, [3])] (by kernel_rfl) (by kernel_rfl) (by kernel_rfl) rfl (by kernel_rfl) ?_
  refine Rf_ 0 18 rfl rfl rfl rfl rfl _ ⟨rfl, trivial⟩ (Y.z (yA 2 rfl Tryz.underlying50 sz50) rfl) ?_
  refine Rf_ 2 20 rfl rfl rfl rfl rfl _ ⟨rfl, trivial⟩ (Y.z (yA 3 rfl Tryz.underlying26 sz26) rfl) ?_
  refine R_chain 1 rfl rfl ?_
  refine S_callM 19 [(900, 900)] (X := FnR) rfl rfl rfl rfl rfl rfl rfl cf45 rfl (fun z => z.v) (FnOk Evt.val EvRf w [] (fun _ => True) (fun e => fndF e t)) (fun z => [(900, .many z.rs)]) (fun _ => rfl) (fun _ => rfl) (fun K hK w1 hM => testF_any hK [] t h1 w1 hM) ?_
  intro x19 hx19
  refine R_next ⟨.inl rfl, .inr ⟨rfl, trivial⟩, trivial⟩ ?_
  refine R_chain 3 rfl rfl ?_
  refine s1 (y_call rfl rfl rfl hx19.cf (fun _ w1 hM => (hx19.sees.at hM 900 rfl trivial).2 w1 (Below.refl _ _) e ⟨he.below hM.below, ev_small hev⟩)) ?_
  refine R_next ⟨.inl rfl, .inl rfl, trivial⟩ ?_
  refine Rf_ 4 4 rfl rfl rfl rfl rfl _ trivial (Y.z (y_assign rfl rfl) rfl) ?_
  refine Rf_ 5 5 rfl rfl rfl rfl rfl _ trivial (Y.z (y_assign rfl rfl) rfl) ?_
  refine R_go (fun _ _ h => h) ?_
  refine tr2 hRb fun w hM => ?_
  exact ⟨rfl, hM.below⟩
theorem gm_self : ∀ t : List UInt8, gm eqL t t = true
  | [] => by rw [gm_nil]; rfl
  | a :: r => by
    by_cases ha : a = 42
    · subst ha
      exact gm_star.2 ⟨1, by rw [List.length_cons]; omega, gm_self r⟩
    · rw [gm_lit ha, gm_self r, Bool.and_true]; exact decide_eq_true rfl
theorem fnd_self {e : Evt} {f : Flt} {x : Frm} (hf : f ∈ e.fa.l) (hx : x ∈ f.fr.l) : fndF e x.f = true :=
  List.any_eq_true.2 ⟨f, hf, List.any_eq_true.2 ⟨x, hx, gm_self x.f⟩⟩
end Go.Proofs.YtgbldojgbpgjbaaGreatDoor
end
section
namespace Go.Proofs.YtgbldojgbpgjbaaGreatDoor
set_option linter.unusedSimpArgs false
set_option linter.unusedVariables false
set_option maxRecDepth 20000
open Go.RowKit Go.Eng
def digs : List UInt8 := [48, 49, 50, 51, 52, 53, 54, 55, 56, 57, 97, 98, 99, 100, 101, 102, 103, 104, 105, 106, 107, 108, 109, 110, 111, 112, 113, 114, 115, 116, 117, 118, 119, 120, 121, 122]
def dig (n : Nat) : UInt8 := digs.getD n 0
/-- the digits of base 16 -/
def hexA (u : Nat) (acc : List UInt8) : List UInt8 := if h : u < 16 then dig u :: acc else hexA (u / 16) (dig (u % 16) :: acc)
termination_by u
decreasing_by omega
theorem hexA_end {u : Nat} {acc : List UInt8} (h : u < 16) : hexA u acc = dig u :: acc := by rw [hexA, dif_pos h]
theorem hexA_next {u : Nat} {acc : List UInt8} (h : ¬ u < 16) : hexA u acc = hexA (u / 16) (dig (u % 16) :: acc) := by rw [hexA, dif_neg h]
theorem and15 (u : Nat) (h : u < 18446744073709551616) : Value.int .u64 (bits .and .u64 (u : Int) 15) = .int .u64 ((u % 16 : Nat) : Int) := by
  have e : (BitVec.ofInt 64 (u : Int) &&& BitVec.ofInt 64 15).toNat = u % 16 := by
    rw [BitVec.toNat_and]
    have e1 : (BitVec.ofInt 64 (u : Int)).toNat = u := by
      rw [BitVec.ofInt_natCast, BitVec.toNat_ofNat]; exact Nat.mod_eq_of_lt h
    have e2 : (BitVec.ofInt 64 15).toNat = 15 := by decide
    rw [e1, e2, show (15 : Nat) = 2 ^ 4 - 1 from rfl, Nat.and_two_pow_sub_one_eq_mod]
  have e3 : bits .and .u64 (u : Int) 15 = IntKind.u64.wrap (((BitVec.ofInt 64 (u : Int) &&& BitVec.ofInt 64 15).toNat : Nat) : Int) := rfl
  rw [e3, e, wrap_in .u64 _ ⟨by show (0 : Int) ≤ _; omega, by show _ ≤ (18446744073709551615 : Int); omega⟩]
/-- Go's table holds the number of trailing noughts of 16 -/
def TzTab (w : World) : Prop := w.cell? ⟨5, 15, none⟩ = some (.int .u8 4) ∧ 5 < w.heap.size
theorem TzTab.below {w w' : World} (h : TzTab w) (hb : Below w.heap.size w w') : TzTab w' := ⟨(hb.cell h.2).trans h.1, Nat.lt_of_lt_of_le h.2 hb.size⟩
theorem isPow_any (w : World) : Calls Tryz.prog 270 #[.int .i64 16] w fun e w' => e = .returned (.bool true) ∧ Below w.heap.size w w' := by
  refine enter_args (args := [.int .i64 16]) (F := _) Tryz.func270 rfl Tryz.ntmps270 rfl rfl ?_
  intro Rb hRb hRn
  refine tx ?_
  refine sr 1 ?_
  refine sgx ?_
  refine sr 2 ?_
  refine s1 (y_bin rfl rfl rfl (fun hg => b_sub (by omega))) ?_
  refine s1 (y_as (v' := .int .i64 0) (by exact rfl) (y_bin rfl rfl rfl (fun _ => b_and))) ?_
  refine s1 (y_as (v' := .bool true) (by exact rfl) (y_bin rfl rfl rfl (fun _ => b_eql))) ?_
  refine sr 1 ?_
  refine sgo ?_
  refine tr1 hRb fun w hM => ?_
  exact ⟨rfl, hM.below⟩
theorem tz64_any (w : World) (hT : TzTab w) : Calls Tryz.prog 292 #[.int .u64 16] w fun e w' => e = .returned (.int .i64 4) ∧ Below w.heap.size w w' := by
  refine enter_args (args := [.int .u64 16]) (F := _) Tryz.func292 rfl Tryz.ntmps292 rfl rfl ?_
  intro Rb hRb hRn
  refine tx ?_
  refine sr 1 ?_
  refine sgs ?_
  refine tx ?_
  refine sr 2 ?_
  refine sgo ?_
  refine T_cond rfl ?_ ?_ <;> intro h4
  · skip
    exact absurd h4 (by decide)
  refine kgx ?_
  refine sr 2 ?_
  refine s1 (y_as (v' := .int .u64 18446744073709551600) (by exact rfl) (y_neg (_) rfl rfl (fun hg => rfl))) ?_
  refine s1 (y_as (v' := .int .u64 16) (by kernel_rfl) (y_bin rfl rfl rfl (fun _ => b_and))) ?_
  refine s1 (y_as (v' := .int .u64 4573923408821661840) (by kernel_rfl) (y_bin rfl rfl rfl (fun hg => b_mulw))) ?_
  refine s1 (y_bin rfl rfl rfl (fun hg => b_shrv (15) (by decide) (by decide) (by first | (simp; done) | (simp; omega)))) ?_
  refine s1 (y_indexArr (j := 15) rfl rfl rfl Tryz.underlying324 (by decide) sz5 (fun _ => by decide)) ?_
  refine s1 (y_load_far rfl rfl hT.1 hT.2 Tryz.underlying5 rfl) ?_
  refine s1 (y_conv64 rfl rfl Tryz.underlying5 Tryz.underlying3 (fun _ => by omega)) ?_
  refine sr 1 ?_
  refine sgo ?_
  refine tr1 hRb fun w hM => ?_
  exact ⟨rfl, hM.below⟩
theorem tz_any (w : World) (hT : TzTab w) : Calls Tryz.prog 271 #[.int .u64 16] w fun e w' => e = .returned (.int .i64 4) ∧ Below w.heap.size w w' := by
  refine enter_args (args := [.int .u64 16]) (F := _) Tryz.func271 rfl Tryz.ntmps271 rfl rfl ?_
  intro Rb hRb hRn
  refine tx ?_
  refine sr 1 ?_
  refine sgs ?_
  refine T_cond rfl ?_ ?_ <;> intro hNone
  · skip
    cases hNone
  refine kgx ?_
  refine sr 1 ?_
  refine s1 (y_call rfl rfl rfl cf292 (fun _ w hM => tz64_any w (hT.below hM.below))) ?_
  refine sr 1 ?_
  refine sgo ?_
  refine tr1 hRb fun w hM => ?_
  exact ⟨rfl, hM.below⟩
theorem pow_16 {u k : Nat} (h : u < 16 ^ k) (h1 : 16 ≤ u) : u / 16 < 16 ^ (k - 1) ∧ 2 ≤ k := by
  have hk : 2 ≤ k := by
    rcases Nat.lt_or_ge k 2 with h2 | h2
    · have : 16 ^ k ≤ 16 ^ 1 := Nat.pow_le_pow_right (by decide) (by omega)
      omega
    · exact h2
  obtain ⟨j, rfl⟩ : ∃ j, k = j + 1 := ⟨k - 1, by omega⟩
  rw [Nat.pow_succ] at h
  exact ⟨by simp only [Nat.add_sub_cancel]; omega, hk⟩
theorem pow_64 {u k : Nat} (h : u < 16 ^ (16 - k)) : u < 18446744073709551616 := by
  have : 16 ^ (16 - k) ≤ 16 ^ 16 := Nat.pow_le_pow_right (by decide) (by omega)
  have e : (16 : Nat) ^ 16 = 18446744073709551616 := by decide
  omega
theorem formatBits_any (h : Nat) (hh : h < 18446744073709551616) (w : World) (hT : TzTab w) :
    Calls Tryz.prog 226 #[.slice none 0 0, .int .u64 (h : Int), .int .i64 16, .bool false, .bool false] w fun e w' => e = .returned (.tuple #[.slice none 0 0, str (hexA h [])]) ∧ Below w.heap.size w w' := by
  refine enter_args (args := [.slice none 0 0, .int .u64 (h : Int), .int .i64 16, .bool false, .bool false]) (F := _) Tryz.func226 rfl Tryz.ntmps226 rfl rfl ?_
  intro Rb hRb hRn
  refine tx ?_
  refine S_nilSlice 10 (e := 5) (size := 1) ?_
  refine sr 2 ?_
  refine sgs ?_
  refine tx ?_
  refine sr 3 ?_
  refine sg rfl (y_move rfl rfl) ?_
  refine sg rfl (y_bin rfl rfl rfl (fun _ => b_eql)) ?_
  refine s1 (y_or rfl rfl rfl) ?_
  refine sr 1 ?_
  refine sg rfl (y_move rfl rfl) ?_
  refine sg rfl (y_bin rfl rfl rfl (fun _ => b_gtr)) ?_
  refine s1 (y_or rfl rfl rfl) ?_
  refine sgo ?_
  refine T_cond rfl ?_ ?_ <;> intro h28
  · skip
    exact absurd h28 (by decide)
  refine kgx ?_
  refine S_alloc 12 12 rfl rfl rfl rfl z284 ?_
  intro b12
  refine sgx ?_
  refine sr 1 ?_
  refine sgs ?_
  refine tx ?_
  refine sr 1 ?_
  refine sgo ?_
  refine T_cond rfl ?_ ?_ <;> intro h30
  · skip
    cases h30
  refine kgs ?_
  refine tx ?_
  refine sr 1 ?_
  refine s1 (y_call rfl rfl rfl cf270 (fun _ w _ => isPow_any w)) ?_
  refine sgo ?_
  refine T_cond rfl ?_ ?_ <;> intro h34
  · skip
    refine tx ?_
    refine sr 1 ?_
    refine s1 (y_as (v' := .int .u64 16) (by exact rfl) (y_conv rfl rfl Tryz.underlying3 Tryz.underlying214)) ?_
    refine s1 (y_call rfl rfl rfl cf271 (fun _ w hM => tz_any w (hT.below hM.below))) ?_
    refine s1 (y_as (v' := .int .u64 4) (by exact rfl) (y_conv rfl rfl Tryz.underlying3 Tryz.underlying214)) ?_
    refine sr 1 ?_
    refine sgx ?_
    refine sr 1 ?_
    refine s1 (y_as (v' := .int .u64 16) (by exact rfl) (y_conv rfl rfl Tryz.underlying3 Tryz.underlying145)) ?_
    refine sr 1 ?_
    refine sgx ?_
    refine sr 1 ?_
    refine s1 (y_as (v' := .int .u64 16) (by exact rfl) (y_conv rfl rfl Tryz.underlying3 Tryz.underlying214)) ?_
    refine s1 (y_as (v' := .int .u64 15) (by exact rfl) (y_bin rfl rfl rfl (fun hg => b_subw))) ?_
    refine sr 1 ?_
    refine sgs ?_
    refine T_block ?_
    refine lK3 (kf := [(1, 1), (13, 13), (44, 57)]) (kl := [(1, 1), (12, 13), (44, 57)]) (fun (u : Nat) (acc : List UInt8) (cs : List Value) => [(1, true, .int .u64 (u : Int)), (13, true, .int .i64 ((65 - acc.length : Nat) : Int))]) (fun (u : Nat) (acc : List UInt8) (cs : List Value) => [(12, .blk b12 (IsBox cs 284))]) (fun (u : Nat) (acc : List UInt8) (cs : List Value) => hexA h [] = hexA u acc ∧ acc.length ≤ 15 ∧ u < 16 ^ (16 - acc.length) ∧ cs.length = 65 ∧ cs.drop (65 - acc.length) = bytesV acc) (fun (u : Nat) (acc : List UInt8) (cs : List Value) => u) h [] (List.replicate 65 (.int .u8 0)) ?_ ?_ ?_ ?_
    · exact ⟨rfl, by decide, hh, rfl, rfl⟩
    · exact ⟨rfl, rfl, trivial⟩
    · exact ⟨rfl, trivial⟩
    rintro u acc cs ⟨hp1, hp2, hp3, hp4, hp5⟩
    refine T_seq ?_
    refine tx ?_
    refine sr 3 ?_
    refine sgo ?_
    refine T_cond rfl ?_ ?_ <;> intro h46
    · try simp only [nrm] at h46
      have hpw := pow_16 hp3 (by omega)
      have hu64 := pow_64 hp3
      refine kgo ?_
      refine T_block ?_
      refine tx ?_
      refine sr 1 ?_
      refine s1 (y_bin rfl rfl rfl (fun hg => b_subv (((65 - (acc.length + 1) : Nat) : Int)) (by omega) (by omega))) ?_
      refine sr 1 ?_
      refine sgx ?_
      refine sr 3 ?_
      refine s1 (y_as (v' := .int .u64 ((u % 16 : Nat) : Int)) (by exact and15 u hu64) (y_bin rfl rfl rfl (fun _ => b_and))) ?_
      refine s1 (y_index_str (j := u % 16) (s := digs) rfl rfl rfl Tryz.underlying9 (fun _ => Nat.lt_of_lt_of_le (Nat.mod_lt _ (by decide)) (by decide))) ?_
      refine s1 (y_indexArr (j := 65 - (acc.length + 1)) rfl rfl rfl Tryz.underlying284 (by decide) sz5 (fun _ => by omega)) ?_
      refine S_store 12 rfl rfl rfl rfl rfl rfl sz5 rfl (Nat.ble_eq_true_of_le (by rw [hp4]; show 65 - (acc.length + 1) + 1 ≤ 65; omega)) ?_
      refine sgr ?_
      refine sr 2 ?_
      refine s1 (y_bin rfl rfl rfl (fun hg => b_shrv (((u / 16 : Nat) : Int)) (by decide) (by decide) (by first | (simp; done) | (simp; omega)))) ?_
      refine sr 1 ?_
      refine S_nil (nK3 (kf := [(1, 1), (13, 13), (44, 57)]) (kl := [(1, 1), (12, 13), (44, 57)]) (u / 16) (dig (u % 16) :: acc) (spl cs (65 - (acc.length + 1)) [.int .u8 ((dig (u % 16)).toNat : Int)]) ?_ ?_ ?_ ?_)
      · omega
      · exact ⟨by rw [hp1, hexA_next (by omega)], by simp only [List.length_cons]; omega, by have := hpw.1; rw [show 16 - (dig (u % 16) :: acc).length = 16 - acc.length - 1 from by simp only [List.length_cons]; omega]; exact this, by rw [spl_len (by simp; omega), hp4], by simp only [List.length_cons]; rw [spl_drop (by omega), show 65 - (acc.length + 1) + 1 = 65 - acc.length from by omega, hp5]; rfl⟩
      · exact ⟨rfl, rfl, trivial⟩
      · exact ⟨rfl, trivial⟩
    try simp only [nrm] at h46
    have hu64 := pow_64 hp3
    refine egx ?_
    refine sr 1 ?_
    refine s1 (y_bin rfl rfl rfl (fun hg => b_subv (((65 - (acc.length + 1) : Nat) : Int)) (by omega) (by omega))) ?_
    refine sr 1 ?_
    refine sgr ?_
    refine sr 2 ?_
    refine s1 (y_index_str (j := u) (s := digs) rfl rfl rfl Tryz.underlying9 (fun _ => Nat.lt_of_lt_of_le (show u < 16 by omega) (by decide))) ?_
    refine s1 (y_indexArr (j := 65 - (acc.length + 1)) rfl rfl rfl Tryz.underlying284 (by decide) sz5 (fun _ => by omega)) ?_
    refine S_store 12 rfl rfl rfl rfl rfl rfl sz5 rfl (Nat.ble_eq_true_of_le (by rw [hp4]; show 65 - (acc.length + 1) + 1 ≤ 65; omega)) ?_
    refine sgs ?_
    refine tx ?_
    refine sr 1 ?_
    refine sgo ?_
    refine T_cond rfl ?_ ?_ <;> intro h89
    · skip
      cases h89
    refine kgs ?_
    refine tx ?_
    refine sr 1 ?_
    refine sgo ?_
    refine T_cond rfl ?_ ?_ <;> intro h94
    · skip
      cases h94
    refine kgx ?_
    refine sr 1 ?_
    refine s1 (y_sliceArr rfl rfl Tryz.underlying284 sz5 rfl (by omega)) ?_
    refine s1 (y_str_box 12 (dig u :: acc) rfl rfl rfl (by simp only [List.length_cons]; omega) (by show (spl cs (65 - (acc.length + 1)) [_]).drop _ = _; rw [spl_drop (by omega), show 65 - (acc.length + 1) + 1 = 65 - acc.length from by omega, hp5]; rfl) Tryz.underlying71 Tryz.underlying5 Tryz.underlying9) ?_
    refine sr 1 ?_
    refine sgo ?_
    refine tr2 hRb fun w hM => ?_
    exact ⟨by rw [hp1, hexA_end (by omega)], hM.below⟩
  cases h34
theorem hexA_len : ∀ (u : Nat) (acc : List UInt8), acc.length ≤ 15 → u < 16 ^ (16 - acc.length) → (hexA u acc).length ≤ 16 := by
  intro u
  induction u using Nat.strongRecOn with
  | ind u ih =>
    intro acc h1 h2
    by_cases h : u < 16
    · rw [hexA_end h]; simp only [List.length_cons]; omega
    · have hp := pow_16 h2 (by omega)
      rw [hexA_next h]
      exact ih (u / 16) (by omega) _ (by simp only [List.length_cons]; omega) (by rw [show 16 - (dig (u % 16) :: acc).length = 16 - acc.length - 1 from by simp only [List.length_cons]; omega]; exact hp.1)
theorem iFormatUint_any (h : Nat) (hh : h < 18446744073709551616) (w : World) (hT : TzTab w) :
    Calls Tryz.prog 181 #[.int .u64 (h : Int), .int .i64 16] w fun e w' => e = .returned (str (hexA h [])) ∧ Below w.heap.size w w' := by
  refine enter_args (args := [.int .u64 (h : Int), .int .i64 16]) (F := _) Tryz.func181 rfl Tryz.ntmps181 rfl rfl ?_
  intro Rb hRb hRn
  refine tx ?_
  refine sr 1 ?_
  refine sgs ?_
  refine tx ?_
  refine sr 2 ?_
  refine sgo ?_
  refine T_cond rfl ?_ ?_ <;> intro h10
  · skip
    exact absurd h10 (by decide)
  refine kgx ?_
  refine sr 2 ?_
  refine s1 (y_call rfl rfl rfl cf226 (fun _ w hM => formatBits_any h hh w (hT.below hM.below))) ?_
  refine sr 5 ?_
  refine sgx ?_
  refine sr 2 ?_
  refine sgo ?_
  refine tr1 hRb fun w hM => ?_
  exact ⟨rfl, hM.below⟩
theorem FormatUint_any (h : Nat) (hh : h < 18446744073709551616) (w : World) (hT : TzTab w) :
    Calls Tryz.prog 90 #[.int .u64 (h : Int), .int .i64 16] w fun e w' => e = .returned (str (hexA h [])) ∧ Below w.heap.size w w' := by
  refine enter_args (args := [.int .u64 (h : Int), .int .i64 16]) (F := _) Tryz.func90 rfl Tryz.ntmps90 rfl rfl ?_
  intro Rb hRb hRn
  refine tx ?_
  refine sr 1 ?_
  refine sgx ?_
  refine sr 2 ?_
  refine s1 (y_call rfl rfl rfl cf181 (fun _ w hM => iFormatUint_any h hh w (hT.below hM.below))) ?_
  refine sr 1 ?_
  refine sgo ?_
  refine tr1 hRb fun w hM => ?_
  exact ⟨rfl, hM.below⟩
theorem Mul1_any (n : Nat) (hn : n < 18446744073709551616) (w : World) : Calls Tryz.prog 182 #[.int .u64 1, .int .u64 (n : Int)] w fun e w' => e = .returned (.tuple #[.int .u64 0, .int .u64 (n : Int)]) ∧ Below w.heap.size w w' :=
  (Tryz.bits_Mul 1 n (by decide) hn w).mono fun e w' h => ⟨by rw [h.1, Nat.one_mul, Nat.div_eq_of_lt hn, Nat.mod_eq_of_lt hn]; rfl, h.2 ▸ Below.refl _ _⟩
theorem HasPrefix_any (s p : List UInt8) (w : World) : Calls Tryz.prog 183 #[str s, str p] w fun e w' => e = .returned (.bool (Lib.hasPrefix s p)) ∧ Below w.heap.size w w' :=
  (Tryz.strings_HasPrefix ⟨s.toArray⟩ ⟨p.toArray⟩ w).mono fun e w' h => ⟨by rw [h.1], h.2 ▸ Below.refl _ _⟩
theorem Repeat0_any (n : Nat) (hn : n ≤ 16) (w : World) : Calls Tryz.prog 91 #[str [48], .int .i64 (n : Int)] w fun e w' => e = .returned (str (List.replicate n 48)) ∧ Below w.heap.size w w' := by
  refine enter_args (args := [str [48], .int .i64 (n : Int)]) (F := _) Tryz.func91 rfl Tryz.ntmps91 rfl rfl ?_
  intro Rb hRb hRn
  refine tx ?_
  refine sr 1 ?_
  refine sgs ?_
  refine tx ?_
  refine sr 1 ?_
  refine sgo ?_
  refine T_block ?_
  refine tx ?_
  refine sr 2 ?_
  refine sgo ?_
  refine T_cond rfl ?_ ?_ <;> intro h12
  · try simp only [nrm] at h12
    refine tx ?_
    refine sr 1 ?_
    refine sgo ?_
    refine tr1 hRb fun w hM => ?_
    exact ⟨by rw [show n = 0 from by omega]; rfl, hM.below⟩
  try simp only [nrm] at h12
  refine tx ?_
  refine sr 2 ?_
  refine sgo ?_
  refine T_cond rfl ?_ ?_ <;> intro h14
  · try simp only [nrm] at h14
    refine tx ?_
    refine sr 2 ?_
    refine sgo ?_
    refine tr1 hRb fun w hM => ?_
    exact ⟨by rw [show n = 1 from by omega]; rfl, hM.below⟩
  try simp only [nrm] at h14
  refine kgs ?_
  refine tx ?_
  refine sr 2 ?_
  refine sgo ?_
  refine T_cond rfl ?_ ?_ <;> intro h18
  · try simp only [nrm] at h18
    omega
  try simp only [nrm] at h18
  refine kgx ?_
  refine sr 1 ?_
  refine s1 (y_len_str rfl rfl Tryz.underlying9) ?_
  refine s1 (y_as (v' := .int .u64 1) (by exact rfl) (y_conv rfl rfl Tryz.underlying3 Tryz.underlying214)) ?_
  refine sr 1 ?_
  refine s1 (y_as (v' := .int .u64 (n : Int)) (by rw [wrap_in .u64 _ ⟨by show (0 : Int) ≤ _; omega, by show _ ≤ (18446744073709551615 : Int); omega⟩]) (y_conv rfl rfl Tryz.underlying3 Tryz.underlying214)) ?_
  refine s1 (y_call rfl rfl rfl cf182 (fun _ w _ => Mul1_any n (by omega) w)) ?_
  refine sr 5 ?_
  refine sgs ?_
  refine tx ?_
  refine sr 3 ?_
  refine sg rfl (y_move rfl rfl) ?_
  refine sg rfl (y_bin rfl rfl rfl (fun _ => b_gtr)) ?_
  refine s1 (y_or rfl rfl rfl) ?_
  refine sgo ?_
  refine T_cond rfl ?_ ?_ <;> intro h34
  · skip
    exact absurd h34 (by simp; omega)
  refine kgx ?_
  refine sr 1 ?_
  refine s1 (y_conv64 rfl rfl Tryz.underlying214 Tryz.underlying3 (fun _ => by omega)) ?_
  refine sr 1 ?_
  refine sgs ?_
  refine tx ?_
  refine sr 1 ?_
  refine s1 (y_len_str rfl rfl Tryz.underlying9) ?_
  refine sr 1 ?_
  refine sgo ?_
  refine T_cond rfl ?_ ?_ <;> intro h40
  · skip
    exact absurd h40 (by decide)
  refine kgs ?_
  refine tx ?_
  refine sr 1 ?_
  refine s1 (y_index_str (j := 0) rfl rfl rfl Tryz.underlying9 (fun _ => by decide)) ?_
  refine sgo ?_
  refine T_block ?_
  refine T_seq ?_
  refine tx ?_
  refine sr 2 ?_
  refine sgo ?_
  refine T_cond rfl ?_ ?_ <;> intro h43
  · skip
    exact absurd h43 (by decide)
  refine tx ?_
  refine sr 2 ?_
  refine sgo ?_
  refine T_cond rfl ?_ ?_ <;> intro h43
  · skip
    exact absurd h43 (by decide)
  refine tx ?_
  refine sr 2 ?_
  refine sgo ?_
  refine T_cond rfl ?_ ?_ <;> intro h43
  · skip
    refine kgo ?_
    refine T_cond rfl ?_ ?_ <;> intro h43
    · skip
      refine T_block ?_
      refine tx ?_
      refine sr 3 ?_
      refine sg rfl (y_move rfl rfl) ?_
      refine sg rfl (y_call rfl rfl rfl cf183 (fun _ w _ => HasPrefix_any _ _ w)) ?_
      refine s1 (y_as (v' := .bool false) (by rw [show Lib.hasPrefix _ [48] = false from by decide, Bool.and_false]) (y_and rfl rfl rfl)) ?_
      refine sr 1 ?_
      refine sgo ?_
      refine T_cond rfl ?_ ?_ <;> intro h49
      · skip
        cases h49
      refine tx ?_
      refine sr 3 ?_
      refine sg rfl (y_move rfl rfl) ?_
      refine sg rfl (y_call rfl rfl rfl cf183 (fun _ w _ => HasPrefix_any _ _ w)) ?_
      refine s1 (y_as (v' := .bool false) (by rw [show Lib.hasPrefix _ [48] = false from by decide, Bool.and_false]) (y_and rfl rfl rfl)) ?_
      refine sr 1 ?_
      refine sgo ?_
      refine T_cond rfl ?_ ?_ <;> intro h58
      · skip
        cases h58
      refine tx ?_
      refine sr 3 ?_
      refine sg rfl (y_move rfl rfl) ?_
      refine sg rfl (y_call rfl rfl rfl cf183 (fun _ w _ => HasPrefix_any _ _ w)) ?_
      refine s1 (y_as (v' := .bool true) (by rw [show Lib.hasPrefix _ [48] = true from by decide, Bool.and_true, decide_eq_true (by omega)]) (y_and rfl rfl rfl)) ?_
      refine sr 1 ?_
      refine sgo ?_
      refine T_cond rfl ?_ ?_ <;> intro h67
      · skip
        refine tx ?_
        refine sr 1 ?_
        refine s1 (y_strTo rfl rfl rfl Tryz.underlying9 (fun _ => ⟨by omega, by show (n : Int) ≤ ((64 : Nat) : Int); omega⟩)) ?_
        refine sr 1 ?_
        refine sgo ?_
        refine tr1 hRb fun w hM => ?_
        exact ⟨by rw [show (List.replicate n (48 : UInt8)) = (List.replicate 64 48).take n from by rw [List.take_replicate, Nat.min_eq_left (by omega)]]; rfl, hM.below⟩
      cases h67
    exact absurd h43 (by decide)
  exact absurd h43 (by decide)
/-- the digest -/
def sumN (h : Nat) (c : UInt8) : Nat := ((h ^^^ c.toNat) * 1099511628211) % 18446744073709551616
def sumF (h : Nat) : List UInt8 → Nat
  | [] => h
  | c :: r => sumF (sumN h c) r
def sum0 : Nat := 14695981039346656037
theorem xorN (h c : Nat) (hh : h < 18446744073709551616) (hc : c < 18446744073709551616) : bits .xor .u64 (h : Int) (c : Int) = ((h ^^^ c : Nat) : Int) := by
  have e : (BitVec.ofInt 64 (h : Int) ^^^ BitVec.ofInt 64 (c : Int)).toNat = h ^^^ c := by
    rw [BitVec.toNat_xor]
    have e1 : ∀ u : Nat, u < 18446744073709551616 → (BitVec.ofInt 64 (u : Int)).toNat = u := fun u hu => by
      rw [BitVec.ofInt_natCast, BitVec.toNat_ofNat]; exact Nat.mod_eq_of_lt hu
    rw [e1 h hh, e1 c hc]
  have e3 : bits .xor .u64 (h : Int) (c : Int) = IntKind.u64.wrap (((BitVec.ofInt 64 (h : Int) ^^^ BitVec.ofInt 64 (c : Int)).toNat : Nat) : Int) := rfl
  have hl : h ^^^ c < 2 ^ 64 := Nat.xor_lt_two_pow (by simpa using hh) (by simpa using hc)
  rw [e3, e, wrap_in .u64 _ ⟨by show (0 : Int) ≤ _; omega, by show _ ≤ (18446744073709551615 : Int); omega⟩]
theorem wrapN (a : Nat) : IntKind.u64.wrap (a : Int) = ((a % 18446744073709551616 : Nat) : Int) := by
  have e : IntKind.u64.wrap (a : Int) = (a : Int) % 18446744073709551616 := rfl
  rw [e]; omega
theorem mulN (a : Nat) : Value.int .u64 (IntKind.u64.wrap ((a : Int) * 1099511628211)) = .int .u64 ((a * 1099511628211 % 18446744073709551616 : Nat) : Int) := by
  rw [show ((a : Int) * 1099511628211) = ((a * 1099511628211 : Nat) : Int) from (Int.natCast_mul a 1099511628211).symm, wrapN]
end Go.Proofs.YtgbldojgbpgjbaaGreatDoor
end
section
namespace Go.Proofs.YtgbldojgbpgjbaaGreatDoor
set_option linter.unusedSimpArgs false
set_option linter.unusedVariables false
set_option maxRecDepth 20000
open Go.RowKit Go.Eng
/-- a builder's box, and its row of bytes -/
abbrev bldBox (b : Nat) (ad : Value) (A : Option Addr) (q c : Nat) : It := .blk b (IsBox [ad, .slice A q c] 73)
abbrev bldRow (A : Option Addr) (q c : Nat) (l : List UInt8) : It := .own 5 1 (.slice A q c) q (bytesV l)
abbrev selfP (b : Nat) : Value := .pointer (some ⟨b, 0, none⟩)
theorem copyCheck_any {w0 : World} {K : HL} (hK : FromK K) (b : Nat) (ad sl : Value) (had : ad = .pointer none ∨ ad = selfP b) (w : World) (hM0 : Mem w0 ([(0, .blk b (IsBox [ad, sl] 73))] ++ K) w) :
    Calls Tryz.prog 76 #[selfP b] w fun e w' => e = .returned (.tuple #[]) ∧ Mem w0 ([(0, .blk b (IsBox [selfP b, sl] 73))] ++ K) w' := by
  obtain ⟨j, hinf73, _⟩ := Option.map_eq_some_iff.1 sz73
  rcases had with rfl | rfl
  ·
    refine enterM_args (args := [selfP b]) (F := _) hM0 Tryz.func76 rfl Tryz.ntmps76 rfl rfl ?_
    intro Rb hRb hRn
    refine tx ?_
    refine sr 1 ?_
    refine s1 (y_nilCheck rfl rfl) ?_
    refine s1 (yF fa73_0) ?_
    refine s1 (yL 0 Tryz.underlying70) ?_
    refine s1 (y_bin rfl rfl rfl (fun _ => b_eqlp Tryz.underlying70)) ?_
    refine sgo ?_
    refine T_cond rfl ?_ ?_ <;> intro h6
    · skip
      refine T_region ?_
      refine sr 2 ?_
      refine s1 (y_conv_to (i := 0) rfl rfl rfl Tryz.underlying70 Tryz.underlying195 sz73 (Nat.succ_pos _)) ?_
      refine s1 (y_noEscape rfl rfl (run_callFunc_extern Tryz.func169 (by kernel_rfl) (by kernel_rfl) (by kernel_rfl) (by kernel_rfl))) ?_
      refine s1 (y_conv_from (i := 0) rfl rfl rfl Tryz.underlying195 Tryz.underlying70 sz73 (by kernel_rfl)) ?_
      refine s1 (y_nilCheck rfl rfl) ?_
      refine s1 (yF fa73_0) ?_
      refine S_store 0 rfl rfl rfl rfl rfl rfl sz70 rfl rfl ?_
      refine S_nil (fun a w hF hM => hRn a w (post0 rfl (fun w hM => ?_) a w hF hM))
      exact ⟨rfl, hM.keep (ks := [(0, 999)]) (by repeat (first | exact kl_rest (by assumption) rfl | (apply kl_in; focus rfl))) _ ⟨rfl, trivial⟩⟩
    simp at h6
  ·
    refine enterM_args (args := [selfP b]) (F := _) hM0 Tryz.func76 rfl Tryz.ntmps76 rfl rfl ?_
    intro Rb hRb hRn
    refine tx ?_
    refine sr 1 ?_
    refine s1 (y_nilCheck rfl rfl) ?_
    refine s1 (yF fa73_0) ?_
    refine s1 (yL 0 Tryz.underlying70) ?_
    refine s1 (y_bin rfl rfl rfl (fun _ => b_eqlp Tryz.underlying70)) ?_
    refine sgo ?_
    refine T_cond rfl ?_ ?_ <;> intro h6
    · skip
      simp at h6
    refine tx ?_
    refine sr 1 ?_
    refine s1 (y_nilCheck rfl rfl) ?_
    refine s1 (yF fa73_0) ?_
    refine s1 (yL 0 Tryz.underlying70) ?_
    refine sr 1 ?_
    refine s1 (y_bin rfl rfl rfl (fun _ => b_neqp_same Tryz.underlying70 hinf73)) ?_
    refine sgo ?_
    refine T_cond rfl ?_ ?_ <;> intro h19
    · skip
      cases h19
    refine T_skip (fun a w hF hM => hRn a w (post0 rfl (fun w hM => ?_) a w hF hM))
    exact ⟨rfl, hM.keep (ks := [(0, 999)]) (by repeat (first | exact kl_rest (by assumption) rfl | (apply kl_in; focus rfl))) _ ⟨rfl, trivial⟩⟩
theorem WriteString_any {w0 : World} {K : HL} (hK : FromK K) (b : Nat) (ad : Value) (A : Option Addr) (q c : Nat) (l s : List UInt8) (had : ad = .pointer none ∨ ad = selfP b) (hlen : q + s.length ≤ 140737488355328) (w : World) (hM0 : Mem w0 ([(0, bldBox b ad A q c), (1, bldRow A q c l)] ++ K) w) :
    Calls Tryz.prog 31 #[selfP b, str s] w fun e w' => ∃ x : Option Addr × Nat, e = .returned (.tuple #[.int .i64 s.length, .nilIface]) ∧ (A = none → c = 0 → s = [] → x.1 = none ∧ x.2 = 0) ∧
      Mem w0 ([(0, bldBox b (selfP b) x.1 (q + s.length) x.2), (1, bldRow x.1 (q + s.length) x.2 (l ++ s))] ++ K) w' := by
  refine enterM_args (args := [selfP b, str s]) (F := _) hM0 Tryz.func31 rfl Tryz.ntmps31 rfl rfl ?_
  intro Rb hRb hRn
  refine tx ?_
  refine sr 2 ?_
  refine sgx ?_
  refine sr 1 ?_
  refine S_callM 7 [(0, 0)] (X := Unit) rfl rfl rfl rfl rfl rfl rfl cf76 rfl (fun _ => .tuple #[]) (fun _ => True) (fun _ => [(0, bldBox b (selfP b) A q c)]) (fun _ => rfl) (fun _ => rfl) (fun K1 hK1 w hM => (copyCheck_any hK1 b ad _ had w hM).mono fun e w1 h => ⟨(), h.1, trivial, h.2⟩) ?_
  intro _ _
  refine sgx ?_
  refine sr 2 ?_
  refine s1 (y_nilCheck rfl rfl) ?_
  refine s1 (yF fa73_1) ?_
  refine s1 (yL 0 Tryz.underlying71) ?_
  refine sr 1 ?_
  refine S_appendStr 14 1 rfl rfl rfl rfl rfl rfl rfl Tryz.underlying71 Tryz.underlying9 inf5 ?_ (q + s.length) (l ++ s) rfl rfl ?_
  · omega
  intro A14 c14 hn14
  refine s1 (y_nilCheck rfl rfl) ?_
  refine s1 (yF fa73_1) ?_
  refine S_store 0 rfl rfl rfl rfl rfl rfl sz71 rfl rfl ?_
  refine sgx ?_
  refine sr 1 ?_
  refine s1 (y_len_str rfl rfl Tryz.underlying9) ?_
  refine sr 2 ?_
  refine sgo ?_
  refine tr2 hRb fun w hM => ?_
  exact ⟨(A14, c14), rfl, hn14, hM.keep (ks := [(0, 999)]) (by repeat (first | exact kl_rest (by assumption) rfl | (apply kl_in; focus rfl))) _ ⟨rfl, rfl, trivial⟩⟩
theorem BLen_any (b : Nat) (A : Option Addr) (q c : Nat) (w : World) (hc : w.cell? ⟨b, 1, none⟩ = some (.slice A q c) ∧ b < w.heap.size) :
    Calls Tryz.prog 35 #[selfP b] w fun e w' => e = .returned (.int .i64 q) ∧ Below w.heap.size w w' := by
  refine enter_args (args := [selfP b]) (F := _) Tryz.func35 rfl Tryz.ntmps35 rfl rfl ?_
  intro Rb hRb hRn
  refine tx ?_
  refine sr 1 ?_
  refine sgx ?_
  refine sr 1 ?_
  refine s1 (y_nilCheck rfl rfl) ?_
  refine s1 (yF fa73_1) ?_
  refine s1 (y_load_far rfl rfl hc.1 hc.2 Tryz.underlying71 rfl) ?_
  refine s1 (y_len_slice rfl rfl Tryz.underlying71) ?_
  refine sr 1 ?_
  refine sgo ?_
  refine tr1 hRb fun w hM => ?_
  exact ⟨rfl, hM.below⟩
theorem BString_any {w0 : World} {K : HL} (hK : FromK K) (b : Nat) (ad : Value) (A : Option Addr) (q c : Nat) (l : List UInt8) (hz : q = 0 → A = none) (h63 : q ≤ 9223372036854775807) (w : World) (hM0 : Mem w0 ([(0, bldBox b ad A q c), (1, bldRow A q c l)] ++ K) w) :
    Calls Tryz.prog 36 #[selfP b] w fun e w' => e = .returned (str l) ∧ Mem w0 ([(1, bldRow none 0 0 []), (0, bldBox b ad A q c)] ++ K) w' := by
  have hrow : w.ownsRow w0.heap.size 5 1 (.slice A q c) q (bytesV l) := hM0.sat 1 _ rfl
  have hql : l.length = q := by have := hrow.1; simp [bytesV] at this; omega
  by_cases h0 : q = 0
  · have hA := hz h0
    subst hA
    have hl : l = [] := List.eq_nil_of_length_eq_zero (by omega)
    subst hl
    subst h0
    refine enterM_args (args := [selfP b]) (F := _) hM0 Tryz.func36 rfl Tryz.ntmps36 rfl rfl ?_
    intro Rb hRb hRn
    refine tx ?_
    refine sr 1 ?_
    refine sgs ?_
    refine T_tail 10 (by kernel_rfl) (by kernel_rfl) ?_
    refine E_ 3 rfl rfl rfl _ (z_move rfl rfl) ?_
    refine E_ 4 rfl rfl rfl _ (z_nilCheck rfl rfl) ?_
    refine E_ 5 rfl rfl rfl _ (z_fieldAddr rfl rfl fa73_1) ?_
    refine E_ 6 rfl rfl rfl _ (z_load 0 rfl rfl rfl rfl Tryz.underlying71 rfl) ?_
    refine E_ 7 rfl rfl rfl _ (z_sliceData rfl rfl (.inl rfl)) ?_
    refine E_ 8 rfl rfl rfl _ (z_move rfl rfl) ?_
    refine E_ 9 rfl rfl rfl _ (z_nilCheck rfl rfl) ?_
    refine E_ 10 rfl rfl rfl _ (z_fieldAddr rfl rfl fa73_1) ?_
    refine E_ 11 rfl rfl rfl _ (z_load 0 rfl rfl rfl rfl Tryz.underlying71 rfl) ?_
    refine E_ 12 rfl rfl rfl _ (z_len rfl rfl Tryz.underlying71) ?_
    refine E_nil ?_
    refine S_unsafeString0 13 rfl rfl rfl rfl rfl rfl ?_
    refine sr 1 ?_
    refine sgo ?_
    refine tr1 hRb fun w hM => ?_
    exact ⟨rfl, (hM.keep (ks := [(0, 999)]) (by repeat (first | exact kl_rest (by assumption) rfl | (apply kl_in; focus rfl))) _ ⟨rfl, trivial⟩ : Mem w0 ([(0, bldBox b ad _ _ c)] ++ K) w).add 1 _ rfl (World.ownsRow_nil _ _ _ _)⟩
  · obtain ⟨g, rfl, hc0⟩ : ∃ g, A = some ⟨g, 0, none⟩ ∧ c ≠ 0 := by
      rcases hrow.2 with ⟨_, h⟩ | ⟨g, cap, cur, hv, _, _, hnc, _⟩
      · exact absurd h h0
      · exact ⟨g, by injection hv, by have : c = cap := by injection hv
                                      omega⟩
    refine enterM_args (args := [selfP b]) (F := _) hM0 Tryz.func36 rfl Tryz.ntmps36 rfl rfl ?_
    intro Rb hRb hRn
    refine tx ?_
    refine sr 1 ?_
    refine sgs ?_
    refine T_tail 10 (by kernel_rfl) (by kernel_rfl) ?_
    refine E_ 3 rfl rfl rfl _ (z_move rfl rfl) ?_
    refine E_ 4 rfl rfl rfl _ (z_nilCheck rfl rfl) ?_
    refine E_ 5 rfl rfl rfl _ (z_fieldAddr rfl rfl fa73_1) ?_
    refine E_ 6 rfl rfl rfl _ (z_load 0 rfl rfl rfl rfl Tryz.underlying71 rfl) ?_
    refine E_ 7 rfl rfl rfl _ (z_sliceData rfl rfl (.inr hc0)) ?_
    refine E_ 8 rfl rfl rfl _ (z_move rfl rfl) ?_
    refine E_ 9 rfl rfl rfl _ (z_nilCheck rfl rfl) ?_
    refine E_ 10 rfl rfl rfl _ (z_fieldAddr rfl rfl fa73_1) ?_
    refine E_ 11 rfl rfl rfl _ (z_load 0 rfl rfl rfl rfl Tryz.underlying71 rfl) ?_
    refine E_ 12 rfl rfl rfl _ (z_len rfl rfl Tryz.underlying71) ?_
    refine E_nil ?_
    refine S_giveRow 1 (g := g) rfl ?_
    refine S_unsafeString 13 1 rfl rfl rfl rfl rfl rfl rfl hql (by omega) h63 Tryz.underlying131 co5 ?_
    refine sr 1 ?_
    refine sgo ?_
    refine tr1 hRb fun w hM => ?_
    exact ⟨rfl, (hM.keep (ks := [(0, 999)]) (by repeat (first | exact kl_rest (by assumption) rfl | (apply kl_in; focus rfl))) _ ⟨rfl, trivial⟩ : Mem w0 ([(0, bldBox b ad _ _ c)] ++ K) w).add 1 _ rfl (World.ownsRow_nil _ _ _ _)⟩
/-! ### .. by the bytes alone -/
abbrev bB (b : Nat) (ad : Value) (A : Option Addr) (c : Nat) (l : List UInt8) : It := bldBox b ad A l.length c
abbrev bR (A : Option Addr) (c : Nat) (l : List UInt8) : It := bldRow A l.length c l
theorem WStr_any {w0 : World} {K : HL} (hK : FromK K) (b : Nat) (ad : Value) (A : Option Addr) (c : Nat) (l s : List UInt8) (had : ad = .pointer none ∨ ad = selfP b) (hlen : l.length + s.length ≤ 140737488355328) (w : World) (hM0 : Mem w0 ([(0, bB b ad A c l), (1, bR A c l)] ++ K) w) :
    Calls Tryz.prog 31 #[selfP b, str s] w fun e w' => ∃ x : Option Addr × Nat, e = .returned (.tuple #[.int .i64 s.length, .nilIface]) ∧ (A = none → c = 0 → s = [] → x.1 = none ∧ x.2 = 0) ∧
      Mem w0 ([(0, bB b (selfP b) x.1 x.2 (l ++ s)), (1, bR x.1 x.2 (l ++ s))] ++ K) w' :=
  (WriteString_any hK b ad A l.length c l s had hlen w hM0).mono fun e w' ⟨x, h1, h2, h3⟩ => ⟨x, h1, h2, by
    show Mem w0 ([(0, bldBox b (selfP b) x.1 (l ++ s).length x.2), (1, bldRow x.1 (l ++ s).length x.2 (l ++ s))] ++ K) w'
    rw [List.length_append]; exact h3⟩
theorem BStr_any {w0 : World} {K : HL} (hK : FromK K) (b : Nat) (ad : Value) (A : Option Addr) (c : Nat) (l : List UInt8) (hz : l.length = 0 → A = none) (h63 : l.length ≤ 9223372036854775807) (w : World) (hM0 : Mem w0 ([(0, bB b ad A c l), (1, bR A c l)] ++ K) w) :
    Calls Tryz.prog 36 #[selfP b] w fun e w' => e = .returned (str l) ∧ Mem w0 ([(1, bR none 0 []), (0, bB b ad A c l)] ++ K) w' := BString_any hK b ad A l.length c l hz h63 w hM0
end Go.Proofs.YtgbldojgbpgjbaaGreatDoor
end
section
namespace Go.Proofs.YtgbldojgbpgjbaaGreatDoor
set_option linter.unusedSimpArgs false
set_option linter.unusedVariables false
set_option maxRecDepth 20000
open Go.RowKit Go.Eng
end Go.Proofs.YtgbldojgbpgjbaaGreatDoor
end
section
namespace Go.Proofs.YtgbldojgbpgjbaaGreatDoor
set_option linter.unusedSimpArgs false
set_option linter.unusedVariables false
set_option maxRecDepth 20000
open Go.RowKit Go.Eng
theorem Contains1_any (s : List UInt8) (c : UInt8) (w : World) : Calls Tryz.prog 72 #[str s, str [c]] w fun e w' => e = .returned (.bool (decide (0 ≤ Lib.indexByte s c))) ∧ Below w.heap.size w w' :=
  (Tryz.strings_Contains_one ⟨s.toArray⟩ c w).mono fun e w' h => ⟨by rw [h.1], h.2 ▸ Below.refl _ _⟩
theorem Index1_any (s : List UInt8) (c : UInt8) (w : World) : Calls Tryz.prog 163 #[str s, str [c]] w fun e w' => e = .returned (.int .i64 (Lib.indexByte s c)) ∧ Below w.heap.size w w' :=
  (Tryz.strings_Index_one ⟨s.toArray⟩ c w).mono fun e w' h => ⟨by rw [h.1], h.2 ▸ Below.refl _ _⟩
theorem LIndex1_any (s : List UInt8) (c : UInt8) (w : World) : Calls Tryz.prog 219 #[str s, str [c]] w fun e w' => e = .returned (.int .i64 (Lib.indexByte s c)) ∧ Below w.heap.size w w' :=
  (Tryz.stringslite_Index_one ⟨s.toArray⟩ c w).mono fun e w' h => ⟨by rw [h.1], h.2 ▸ Below.refl _ _⟩
theorem Count1_any (s : List UInt8) (c : UInt8) (w : World) : Calls Tryz.prog 250 #[str s, str [c]] w fun e w' => e = .returned (.int .i64 ((s.count c : Nat) : Int)) ∧ Below w.heap.size w w' :=
  (Tryz.strings_Count_one ⟨s.toArray⟩ c w).mono fun e w' h => ⟨by rw [h.1]; rfl, h.2 ▸ Below.refl _ _⟩
/-! ### Split -/
def splitC (c : UInt8) : List UInt8 → List (List UInt8)
  | [] => [[]]
  | x :: r => if x = c then [] :: splitC c r else match splitC c r with
    | h :: t => (x :: h) :: t
    | [] => [[x]]
theorem splitC_len (c : UInt8) : ∀ s : List UInt8, (splitC c s).length = s.count c + 1
  | [] => rfl
  | x :: r => by
    have ih := splitC_len c r
    rw [splitC]
    by_cases h : x = c
    · subst h; rw [if_pos rfl, List.length_cons, ih, List.count_cons_self]
    · rw [if_neg h, List.count_cons_of_ne h]
      cases hq : splitC c r with
      | nil => rw [hq] at ih; simp at ih
      | cons a t => rw [hq] at ih; simpa using ih
theorem splitC_none (c : UInt8) : ∀ s : List UInt8, (∀ k : Nat, s[k]? ≠ some c) → splitC c s = [s]
  | [], _ => rfl
  | x :: r, h => by
    have hx : ¬ x = c := fun e => h 0 (by simp [e])
    rw [splitC, if_neg hx, splitC_none c r fun k => by have := h (k + 1); simpa using this]
theorem splitC_some (c : UInt8) : ∀ (s : List UInt8) (o : Nat), s[o]? = some c → (∀ k : Nat, k < o → s[k]? ≠ some c) → splitC c s = s.take o :: splitC c (s.drop (o + 1))
  | [], o, h, _ => by simp at h
  | x :: r, 0, h, _ => by
    have hx : x = c := by simpa using h
    rw [splitC, if_pos hx]; rfl
  | x :: r, o + 1, h, hk => by
    have hx : ¬ x = c := fun e => hk 0 (by omega) (by simp [e])
    rw [splitC, if_neg hx, splitC_some c r o (by simpa using h) fun k hko => by have := hk (k + 1) (by omega); simpa using this]
    rfl
theorem strs_flat (l : List (List UInt8)) : l.flatMap strE = l.map str := by
  induction l with
  | nil => rfl
  | cons a r ih => rw [List.flatMap_cons, ih]; rfl
theorem strs_len (l : List (List UInt8)) : (l.flatMap strE).length = l.length := by rw [strs_flat, List.length_map]
theorem strs_set {out : List (List UInt8)} {i m : Nat} {v : List UInt8} (ho : out.length = i) (hm : 0 < m) : ((out ++ List.replicate m []).flatMap strE).set i (str v) = ((out ++ [v]) ++ List.replicate (m - 1) []).flatMap strE := by
  obtain ⟨k, rfl⟩ : ∃ k, m = k + 1 := ⟨m - 1, by omega⟩
  subst ho
  rw [strs_flat, strs_flat, Nat.add_sub_cancel, List.replicate_succ]
  simp
theorem made_str (z : Value) (hz : z = str []) (n : Nat) : (madeCells z.cells (n * 1)).toList = (List.replicate n []).flatMap strE := by
  subst hz
  rw [strs_flat, Nat.mul_one]
  apply List.ext_getElem?
  intro j
  by_cases h : j < n
  · simp [madeCells, h, List.getElem?_replicate, Value.cells, Nat.mod_one]
  · simp [madeCells, h, List.getElem?_replicate]
set_option maxHeartbeats 1000000 in
theorem genSplit1_any (s : List UInt8) (c : UInt8) (hs : s.length ≤ 1000000000) (w : World) :
    Calls Tryz.prog 197 #[str s, str [c], .int .i64 0, .int .i64 (-1)] w fun e w' => ∃ A q, e = .returned (.slice A (splitC c s).length q) ∧ w'.ownsRow w.heap.size 9 1 (.slice A (splitC c s).length q) (splitC c s).length ((splitC c s).flatMap strE) ∧ Below w.heap.size w w' := by
  have hcl : s.count c ≤ s.length := List.count_le_length
  have hsl := splitC_len c s
  refine enter_args (args := [str s, str [c], .int .i64 0, .int .i64 (-1)]) (F := _) Tryz.func197 rfl Tryz.ntmps197 rfl rfl ?_
  intro Rb hRb hRn
  refine tx ?_
  refine S_nilSlice 8 (e := 9) (size := 1) ?_
  refine sr 1 ?_
  refine sgs ?_
  refine tx ?_
  refine sr 2 ?_
  refine sgo ?_
  refine T_cond rfl ?_ ?_ <;> intro h13
  · skip
    simp at h13
  refine kgs ?_
  refine tx ?_
  refine sr 1 ?_
  refine s1 (y_bin rfl rfl rfl (fun _ => b_eqls)) ?_
  refine sgo ?_
  refine T_cond rfl ?_ ?_ <;> intro h15
  · skip
    simp at h15
  refine kgs ?_
  refine tx ?_
  refine sr 2 ?_
  refine sgo ?_
  refine T_cond rfl ?_ ?_ <;> intro h20
  · skip
    refine T_region ?_
    refine sr 2 ?_
    refine s1 (y_call rfl rfl rfl cf250 (fun _ w _ => Count1_any s c w)) ?_
    refine s1 (y_bin rfl rfl rfl (fun hg => b_addv (((s.count c + 1 : Nat) : Int)) (by omega) (by omega))) ?_
    refine sr 1 ?_
    refine sgx ?_
    refine sr 2 ?_
    refine s1 (y_len_str rfl rfl Tryz.underlying9) ?_
    refine s1 (y_bin rfl rfl rfl (fun hg => b_add (by omega))) ?_
    refine s1 (y_as (v' := .int .i64 ((s.count c + 1 : Nat) : Int)) (by congr 1; split <;> omega) (y_min rfl rfl rfl)) ?_
    refine sr 1 ?_
    refine sgx ?_
    refine sr 1 ?_
    obtain ⟨i31, hi31, hz31, hs31, hy31⟩ := info_parts inf9
    refine S_makeSlice 31 31 rfl rfl rfl rfl rfl rfl Tryz.underlying53 hi31 hz31 hs31 (by rw [hy31]; omega) ((by simp only [maxLen]; omega)) rfl ?_
    intro b31
    refine sr 1 ?_
    refine sgx ?_
    refine sr 1 ?_
    refine s1 (y_bin rfl rfl rfl (fun hg => b_subv (((s.count c : Nat) : Int)) (by omega) (by omega))) ?_
    refine sr 1 ?_
    refine sgx ?_
    refine sr 1 ?_
    refine sgs ?_
    refine T_block ?_
    refine lK3 (kf := [(0, 0), (10, 11), (34, 57)]) (kl := [(0, 0), (10, 11), (31, 31), (34, 57)]) (fun (i : Nat) (out : List (List UInt8)) (rest : List UInt8) => [(10, true, .int .i64 (i : Int)), (0, true, str rest)]) (fun (i : Nat) (out : List (List UInt8)) (rest : List UInt8) => [(31, .own 9 1 (.slice (some ⟨b31, 0, none⟩) (s.count c + 1) (s.count c + 1)) (s.count c + 1) ((out ++ List.replicate (s.count c + 1 - i) []).flatMap strE))]) (fun (i : Nat) (out : List (List UInt8)) (rest : List UInt8) => out.length = i ∧ out ++ splitC c rest = splitC c s ∧ i + (splitC c rest).length = s.count c + 1 ∧ rest.length ≤ s.length) (fun (i : Nat) (out : List (List UInt8)) (rest : List UInt8) => s.count c + 1 - i) 0 [] s ?_ ?_ ?_ ?_
    · exact ⟨rfl, rfl, by omega, by omega⟩
    · exact ⟨rfl, rfl, trivial⟩
    · exact ⟨by rw [made_str _ rfl]; rfl, trivial⟩
    rintro i out rest ⟨hp1, hp2, hp3, hp4⟩
    refine T_seq ?_
    refine tx ?_
    refine sr 3 ?_
    refine sgo ?_
    refine T_cond rfl ?_ ?_ <;> intro h36
    · try simp only [nrm] at h36
      refine kgo ?_
      refine T_block ?_
      refine tx ?_
      refine sr 2 ?_
      refine s1 (y_call rfl rfl rfl cf163 (fun _ w _ => Index1_any rest c w)) ?_
      refine sr 1 ?_
      refine sgs ?_
      refine tx ?_
      refine sr 2 ?_
      refine sgo ?_
      refine T_cond rfl ?_ ?_ <;> intro h41
      · try simp only [nrm] at h41
        have hix : Lib.indexByte rest c = -1 := by have := Lib.indexByte_ge rest c; omega
        have hr0 : splitC c rest = [rest] := splitC_none c rest (Lib.indexByte_none hix)
        have hi1 : i + 1 = s.count c + 1 := by rw [hr0] at hp3; exact hp3
        refine egx ?_
        refine sr 3 ?_
        refine s1 (y_indexOwn 31 rfl rfl rfl rfl Tryz.underlying53 sz9 (fun _ => by omega)) ?_
        refine S_storeOwn 31 rfl rfl rfl rfl rfl rfl sz9 rfl rfl ?_ (xs' := ((out ++ [rest]) ++ List.replicate (s.count c + 1 - i - 1) []).flatMap strE) ?_ ?_
        · (rw [strs_len, List.length_append, List.length_replicate]; omega)
        · exact strs_set hp1 (by omega)
        refine sgx ?_
        refine sr 2 ?_
        refine s1 (y_bin rfl rfl rfl (fun hg => b_addv (((i + 1 : Nat) : Int)) (by omega) (by omega))) ?_
        refine S_shrink 31 (i + 1) rfl (by omega) ?_
        refine s1 (y_as (v' := .slice (some ⟨b31, 0, none⟩) (i + 1) (s.count c + 1)) (by rw [slice0, Nat.sub_zero, Nat.sub_zero]) (y_slice (lo := 0) (hi := i + 1) rfl rfl Tryz.underlying53 sz9 (.inl ⟨rfl, rfl⟩) (.inr ⟨_, _, rfl, rfl⟩) (by omega) (by omega) (Nat.le_refl _))) ?_
        refine sr 1 ?_
        refine sgo ?_
        refine tr1 hRb fun w hM => ?_
        have hfin : splitC c s = out ++ [rest] := by rw [← hp2, hr0]
        have hlen : (splitC c s).length = i + 1 := by rw [hfin, List.length_append, hp1]; rfl
        rw [hlen]
        refine ⟨some ⟨b31, 0, none⟩, s.count c + 1, rfl, ?_, hM.below⟩
        have h := hM.sat 31 _ rfl
        rw [show s.count c + 1 - i - 1 = 0 by omega, List.replicate_zero, List.append_nil, ← hfin, List.take_of_length_le (by rw [strs_len, hlen]; omega)] at h
        exact h
      try simp only [nrm] at h41
      obtain ⟨o, ho⟩ : ∃ o : Nat, Lib.indexByte rest c = o := ⟨(Lib.indexByte rest c).toNat, by omega⟩
      obtain ⟨ho1, ho2⟩ := Lib.indexByte_some ho
      have hol := (List.getElem?_eq_some_iff.1 ho1).1
      have hsp := splitC_some c rest o ho1 ho2
      have hdl : (rest.drop (o + 1)).length = rest.length - (o + 1) := List.length_drop
      refine kgx ?_
      refine sr 5 ?_
      refine s1 (y_bin rfl rfl rfl (fun hg => b_addv (((o : Nat) : Int)) (by omega) (by omega))) ?_
      refine s1 (y_as (v' := str (rest.take o)) (by rfl) (y_strTo rfl rfl rfl Tryz.underlying9 (fun _ => by omega))) ?_
      refine s1 (y_indexOwn 31 rfl rfl rfl rfl Tryz.underlying53 sz9 (fun _ => by omega)) ?_
      refine S_storeOwn 31 rfl rfl rfl rfl rfl rfl sz9 rfl rfl ?_ (xs' := ((out ++ [rest.take o]) ++ List.replicate (s.count c + 1 - i - 1) []).flatMap strE) ?_ ?_
      · (rw [strs_len, List.length_append, List.length_replicate]; omega)
      · exact strs_set hp1 (by omega)
      refine sgx ?_
      refine sr 3 ?_
      refine s1 (y_as (v' := .int .i64 1) (by exact rfl) (y_len_str rfl rfl Tryz.underlying9)) ?_
      refine s1 (y_bin rfl rfl rfl (fun hg => b_addv (((o + 1 : Nat) : Int)) (by omega) (by omega))) ?_
      refine s1 (y_as (v' := str (rest.drop (o + 1))) (by rfl) (y_strFrom rfl rfl rfl Tryz.underlying9 (fun _ => by omega))) ?_
      refine sr 1 ?_
      refine sgr ?_
      refine sr 1 ?_
      refine s1 (y_bin rfl rfl rfl (fun hg => b_addv (((i + 1 : Nat) : Int)) (by omega) (by omega))) ?_
      refine sr 1 ?_
      refine S_nil (nK3 (kf := [(0, 0), (10, 11), (34, 57)]) (kl := [(0, 0), (10, 11), (31, 31), (34, 57)]) (i + 1) (out ++ [rest.take o]) (rest.drop (o + 1)) ?_ ?_ ?_ ?_)
      · omega
      · exact ⟨by simp [hp1], by rw [← hp2, hsp, List.append_assoc]; rfl, by rw [hsp, List.length_cons] at hp3; omega, by omega⟩
      · exact ⟨rfl, rfl, trivial⟩
      · exact ⟨rfl, trivial⟩
    try simp only [nrm] at h36
    have hr0 : splitC c rest = [rest] := by
      rcases hq : splitC c rest with _ | ⟨a, _ | ⟨b, t⟩⟩
      · rw [hq] at hp3; have := splitC_len c rest; rw [hq] at this; simp at this
      · have h1 := splitC_len c rest
        rw [hq] at h1
        rw [← hq]
        refine splitC_none c rest fun k hk => ?_
        have := List.count_pos_iff.2 (List.mem_of_getElem? hk)
        simp at h1
        omega
      · rw [hq] at hp3; simp at hp3; omega
    have hi1 : i + 1 = s.count c + 1 := by rw [hr0] at hp3; exact hp3
    refine egx ?_
    refine sr 3 ?_
    refine s1 (y_indexOwn 31 rfl rfl rfl rfl Tryz.underlying53 sz9 (fun _ => by omega)) ?_
    refine S_storeOwn 31 rfl rfl rfl rfl rfl rfl sz9 rfl rfl ?_ (xs' := ((out ++ [rest]) ++ List.replicate (s.count c + 1 - i - 1) []).flatMap strE) ?_ ?_
    · (rw [strs_len, List.length_append, List.length_replicate]; omega)
    · exact strs_set hp1 (by omega)
    refine sgx ?_
    refine sr 2 ?_
    refine s1 (y_bin rfl rfl rfl (fun hg => b_addv (((i + 1 : Nat) : Int)) (by omega) (by omega))) ?_
    refine S_shrink 31 (i + 1) rfl (by omega) ?_
    refine s1 (y_as (v' := .slice (some ⟨b31, 0, none⟩) (i + 1) (s.count c + 1)) (by rw [slice0, Nat.sub_zero, Nat.sub_zero]) (y_slice (lo := 0) (hi := i + 1) rfl rfl Tryz.underlying53 sz9 (.inl ⟨rfl, rfl⟩) (.inr ⟨_, _, rfl, rfl⟩) (by omega) (by omega) (Nat.le_refl _))) ?_
    refine sr 1 ?_
    refine sgo ?_
    refine tr1 hRb fun w hM => ?_
    have hfin : splitC c s = out ++ [rest] := by rw [← hp2, hr0]
    have hlen : (splitC c s).length = i + 1 := by rw [hfin, List.length_append, hp1]; rfl
    rw [hlen]
    refine ⟨some ⟨b31, 0, none⟩, s.count c + 1, rfl, ?_, hM.below⟩
    have h := hM.sat 31 _ rfl
    rw [show s.count c + 1 - i - 1 = 0 by omega, List.replicate_zero, List.append_nil, ← hfin, List.take_of_length_le (by rw [strs_len, hlen]; omega)] at h
    exact h
  simp at h20
theorem Split1_any (s : List UInt8) (c : UInt8) (hs : s.length ≤ 1000000000) (w : World) :
    Calls Tryz.prog 135 #[str s, str [c]] w fun e w' => ∃ A q, e = .returned (.slice A (splitC c s).length q) ∧ w'.ownsRow w.heap.size 9 1 (.slice A (splitC c s).length q) (splitC c s).length ((splitC c s).flatMap strE) ∧ Below w.heap.size w w' := by
  refine enter_args (args := [str s, str [c]]) (F := _) Tryz.func135 rfl Tryz.ntmps135 rfl rfl ?_
  intro Rb hRb hRn
  refine tx ?_
  refine S_nilSlice 4 (e := 9) (size := 1) ?_
  refine sr 1 ?_
  refine sgx ?_
  refine sr 2 ?_
  refine S_callOwn 7 7 rfl rfl rfl rfl rfl rfl rfl cf197 (fun A q => .slice A (splitC c s).length q) 9 1 ((splitC c s).length) ((splitC c s).flatMap strE) (fun w hM => genSplit1_any s c hs w) ?_
  intro A7 c7
  refine sr 1 ?_
  refine sgo ?_
  refine tr1 hRb fun w hM => ?_
  exact ⟨A7, c7, rfl, hM.sat 7 _ rfl, hM.below⟩
/-! ### Cut -/
def cutC (c : UInt8) (s : List UInt8) : List UInt8 × List UInt8 × Bool := if Lib.indexByte s c < 0 then (s, [], false) else (s.take (Lib.indexByte s c).toNat, s.drop ((Lib.indexByte s c).toNat + 1), true)
theorem LCut1_any (s : List UInt8) (c : UInt8) (w : World) (hs : s.length ≤ 4611686018427387904) : Calls Tryz.prog 172 #[str s, str [c]] w fun e w' => e = .returned (.tuple #[str (cutC c s).1, str (cutC c s).2.1, .bool (cutC c s).2.2]) ∧ Below w.heap.size w w' := by
  refine enter_args (args := [str s, str [c]]) (F := _) Tryz.func172 rfl Tryz.ntmps172 rfl rfl ?_
  intro Rb hRb hRn
  refine tx ?_
  refine sr 3 ?_
  refine sgs ?_
  refine tx ?_
  refine sr 2 ?_
  refine s1 (y_call rfl rfl rfl cf219 (fun _ w _ => LIndex1_any s c w)) ?_
  refine sr 1 ?_
  refine sgx ?_
  refine sr 2 ?_
  refine sgo ?_
  refine T_cond rfl ?_ ?_ <;> intro h12
  · try simp only [nrm] at h12
    obtain ⟨o, ho⟩ : ∃ o : Nat, Lib.indexByte s c = o := ⟨(Lib.indexByte s c).toNat, by omega⟩
    obtain ⟨ho1, ho2⟩ := Lib.indexByte_some ho
    have hol := (List.getElem?_eq_some_iff.1 ho1).1
    refine T_seq ?_
    refine T_draws (by kernel_rfl) (by kernel_rfl) ?_
    refine d1 (y_move rfl rfl) ?_
    refine d1 (y_as (v' := .int .i64 ((o : Nat) : Int)) (by rw [ho]) (y_move rfl rfl)) ?_
    refine d1 (y_strTo rfl rfl rfl Tryz.underlying9 (fun _ => by omega)) ?_
    refine d1 (y_move rfl rfl) ?_
    refine d1 (y_as (v' := .int .i64 ((o : Nat) : Int)) (by rw [ho]) (y_move rfl rfl)) ?_
    refine d1 (y_move rfl rfl) ?_
    refine d1 (y_as (v' := .int .i64 1) (by exact rfl) (y_len_str rfl rfl Tryz.underlying9)) ?_
    refine d1 (y_bin rfl rfl rfl (fun hg => b_addv (((o + 1 : Nat) : Int)) (by omega) (by omega))) ?_
    refine d1 (y_strFrom rfl rfl rfl Tryz.underlying9 (fun _ => by omega)) ?_
    refine d1 (y_assign rfl rfl) ?_
    refine d1 (y_assign rfl rfl) ?_
    refine d1 (y_assign rfl rfl) ?_
    refine dgo ?_
    refine tr3 hRb fun w hM => ?_
    exact ⟨by rw [cutC, if_neg (by omega), ho]; rfl, hM.below⟩
  try simp only [nrm] at h12
  refine kgx ?_
  refine sr 4 ?_
  refine sgo ?_
  refine tr3 hRb fun w hM => ?_
  exact ⟨by rw [cutC, if_pos (by omega)], hM.below⟩
theorem Cut1_any (s : List UInt8) (c : UInt8) (w : World) (hs : s.length ≤ 4611686018427387904) : Calls Tryz.prog 79 #[str s, str [c]] w fun e w' => e = .returned (.tuple #[str (cutC c s).1, str (cutC c s).2.1, .bool (cutC c s).2.2]) ∧ Below w.heap.size w w' := by
  refine enter_args (args := [str s, str [c]]) (F := _) Tryz.func79 rfl Tryz.ntmps79 rfl rfl ?_
  intro Rb hRb hRn
  refine tx ?_
  refine sr 3 ?_
  refine sgx ?_
  refine sr 2 ?_
  refine s1 (y_call rfl rfl rfl cf172 (fun _ w _ => LCut1_any s c w hs)) ?_
  refine sr 6 ?_
  refine sgo ?_
  refine tr3 hRb fun w hM => ?_
  exact ⟨rfl, hM.below⟩
/-! ### Words in a list -/
end Go.Proofs.YtgbldojgbpgjbaaGreatDoor
end
section
namespace Go.Proofs.YtgbldojgbpgjbaaGreatDoor
set_option linter.unusedSimpArgs false
set_option linter.unusedVariables false
set_option maxRecDepth 20000
open Go.RowKit Go.Eng
theorem dropWhile_nil {p : UInt8 → Bool} : ∀ {l : List UInt8}, l.dropWhile p = [] → ∀ c ∈ l, p c = true
  | [], _ => fun c h => by cases h
  | a :: r, h => fun c hc => by
    rw [List.dropWhile_cons] at h
    split at h
    · rcases List.mem_cons.1 hc with rfl | hc
      · assumption
      · exact dropWhile_nil h c hc
    · cases h
theorem dropWhile_head {p : UInt8 → Bool} : ∀ {l : List UInt8} {y : UInt8} {t : List UInt8}, l.dropWhile p = y :: t → p y = false
  | [], y, t, h => by simp at h
  | a :: r, y, t, h => by
    rw [List.dropWhile_cons] at h
    split at h
    · exact dropWhile_head h
    · rename_i hp
      obtain ⟨rfl, _⟩ := List.cons.inj h
      simpa using hp
theorem trimS_nil {s cs : List UInt8} (h : Lib.trimS s cs = []) : ∀ c ∈ s, cs.contains c = true := by
  have h1 := dropWhile_nil (l := Lib.trimRightS s cs) h
  have h2 : s.reverse.dropWhile (cs.contains ·) = [] := by
    cases hq : s.reverse.dropWhile (cs.contains ·) with
    | nil => rfl
    | cons y t =>
      have h3 := dropWhile_head hq
      have h4 := h1 y (by unfold Lib.trimRightS; rw [hq]; simp)
      rw [h3] at h4; cases h4
  intro c hc
  exact dropWhile_nil h2 c (List.mem_reverse.2 hc)
abbrev digB : List UInt8 := [48, 49, 50, 51, 52, 53, 54, 55, 56, 57]
theorem digB_iff {c : UInt8} (h : digB.contains c = true) : 48 ≤ c.toNat ∧ c.toNat ≤ 57 := by
  have h : c ∈ digB := by simpa using h
  simp only [digB, List.mem_cons, List.not_mem_nil, or_false] at h
  rcases h with rfl | rfl | rfl | rfl | rfl | rfl | rfl | rfl | rfl | rfl <;> decide
def valD (s : List UInt8) : Nat := s.foldl (fun n c => n * 10 + (c.toNat - 48)) 0
theorem valD_snoc (l : List UInt8) (c : UInt8) : valD (l ++ [c]) = valD l * 10 + (c.toNat - 48) := by rw [valD, List.foldl_append]; rfl
theorem wrap8_in {V : Int} (h : 0 ≤ V ∧ V ≤ 255) : IntKind.u8.wrap V = V := IntWalk.u8_in _ (by omega)
theorem bytesV_at {s : List UInt8} {i : Nat} (h : i < s.length) : (bytesV s)[i]? = some (.int .u8 (((s.getD i 0).toNat : Nat) : Int)) := by
  simp [bytesV, List.getElem?_map, List.getElem?_eq_getElem h, List.getD_eq_getElem?_getD]
theorem getD_mem {s : List UInt8} {i : Nat} (h : i < s.length) : s.getD i 0 ∈ s := by
  rw [List.getD_eq_getElem?_getD, List.getElem?_eq_getElem h]; exact List.getElem_mem h
theorem take_getD {s : List UInt8} {i : Nat} (h : i < s.length) : s.take (i + 1) = s.take i ++ [s.getD i 0] := by
  rw [List.getD_eq_getElem?_getD, List.getElem?_eq_getElem h, List.take_succ_eq_append_getElem h]; rfl
theorem iAtoi_any (s : List UInt8) (h0 : s ≠ []) (h6 : s.length ≤ 18) (hd : ∀ c ∈ s, 48 ≤ c.toNat ∧ c.toNat ≤ 57) (w : World) :
    Calls Tryz.prog 272 #[str s] w fun e w' => e = .returned (.tuple #[.int .i64 (valD s : Nat), .nilIface]) ∧ Below w.heap.size w w' := by
  have hl : 0 < s.length := List.length_pos_iff.2 h0
  have hd0 := hd _ (getD_mem (i := 0) hl)
  refine enter_args (args := [str s]) (F := _) Tryz.func272 rfl Tryz.ntmps272 rfl rfl ?_
  intro Rb hRb hRn
  refine tx ?_
  refine sr 2 ?_
  refine sgx ?_
  refine sr 1 ?_
  refine s1 (y_len_str rfl rfl Tryz.underlying9) ?_
  refine sr 1 ?_
  refine sgs ?_
  refine tx ?_
  refine sr 1 ?_
  refine sg rfl (y_move rfl rfl) ?_
  refine sg rfl (y_bin rfl rfl rfl (fun _ => b_lss)) ?_
  refine sg rfl (y_move rfl rfl) ?_
  refine sg rfl (y_move rfl rfl) ?_
  refine sg rfl (y_bin rfl rfl rfl (fun _ => b_lss)) ?_
  refine sg rfl (y_and rfl rfl rfl) ?_
  refine s1 (y_and rfl rfl rfl) ?_
  refine sr 1 ?_
  refine sg rfl (y_move rfl rfl) ?_
  refine sg rfl (y_move rfl rfl) ?_
  refine sg rfl (y_bin rfl rfl rfl (fun _ => b_lss)) ?_
  refine sg rfl (y_move rfl rfl) ?_
  refine sg rfl (y_move rfl rfl) ?_
  refine sg rfl (y_bin rfl rfl rfl (fun _ => b_lss)) ?_
  refine sg rfl (y_and rfl rfl rfl) ?_
  refine sg rfl (y_and rfl rfl rfl) ?_
  refine s1 (y_or rfl rfl rfl) ?_
  refine sgo ?_
  refine T_cond rfl ?_ ?_ <;> intro h30
  · skip
    refine tx ?_
    refine sr 2 ?_
    refine sgs ?_
    refine tx ?_
    refine sr 1 ?_
    refine s1 (y_index_str (j := 0) rfl rfl rfl Tryz.underlying9 (fun _ => hl)) ?_
    refine sr 2 ?_
    refine sg rfl (y_move rfl rfl) ?_
    refine sg rfl (y_index_str (j := 0) rfl rfl rfl Tryz.underlying9 (fun _ => hl)) ?_
    refine sg rfl (y_bin rfl rfl rfl (fun _ => b_eql)) ?_
    refine s1 (y_or rfl rfl rfl) ?_
    refine sgo ?_
    refine T_cond rfl ?_ ?_ <;> intro h39
    · skip
      simp only [Bool.or_eq_true, decide_eq_true_eq] at h39
      omega
    refine kgx ?_
    refine sr 1 ?_
    refine sgs ?_
    refine tx ?_
    refine sr 1 ?_
    refine S_strBytes 47 47 rfl rfl rfl rfl rfl Tryz.underlying9 Tryz.underlying71 Tryz.underlying5 ?_
    intro b47 c47
    refine s1 (y_len_slice rfl rfl Tryz.underlying71) ?_
    refine sr 1 ?_
    refine sgo ?_
    refine T_block ?_
    refine lK2 (kf := [(2, 3), (6, 6), (8, 8), (49, 63)]) (kl := [(2, 3), (6, 6), (8, 8), (49, 63)]) (fun (i m : Nat) => [(49, true, .int .i64 (i : Int)), (6, true, .int .i64 (m : Int))]) (fun (i m : Nat) => []) (fun (i m : Nat) => i ≤ s.length ∧ m < 10 ^ i ∧ valD (s.take i) = m) (fun (i m : Nat) => s.length - i) 0 0 ?_ ?_ ?_ ?_
    · exact ⟨by omega, by decide, rfl⟩
    · exact ⟨rfl, rfl, trivial⟩
    · exact trivial
    rintro i m ⟨hp1, hp2, hp3⟩
    refine tx ?_
    refine sr 1 ?_
    refine sgs ?_
    refine T_cond rfl ?_ ?_ <;> intro h50
    · try simp only [nrm] at h50
      have hdi := hd _ (getD_mem (i := i) (by omega))
      have hp10 : 10 ^ i ≤ 100000000000000000 := Nat.le_trans (Nat.pow_le_pow_right (by decide) (by omega : i ≤ 17)) (by decide)
      refine kgs ?_
      refine T_block ?_
      refine tx ?_
      refine s1 (y_indexAddr rfl rfl rfl Tryz.underlying71 sz5 (fun _ => rfl) (fun _ => by omega)) ?_
      refine s1 (y_loadRd 47 rfl rfl rfl (fun _ => bytesV_at (by omega)) Tryz.underlying5 rfl) ?_
      refine sr 1 ?_
      refine sgx ?_
      refine sr 1 ?_
      refine s1 (y_as (v' := .int .u8 (((s.getD i 0).toNat - 48 : Nat) : Int)) (by congr 1; rw [wrap8_in (by omega)]; omega) (y_bin rfl rfl rfl (fun hg => b_subw))) ?_
      refine sr 1 ?_
      refine sgs ?_
      refine tx ?_
      refine sr 2 ?_
      refine sgo ?_
      refine T_cond rfl ?_ ?_ <;> intro h56
      · try simp only [nrm] at h56
        omega
      try simp only [nrm] at h56
      refine kgr ?_
      refine sr 1 ?_
      refine s1 (y_bin rfl rfl rfl (fun hg => b_mulv (((m * 10 : Nat) : Int)) (by omega) (by omega))) ?_
      refine sr 1 ?_
      refine s1 (y_conv64 rfl rfl Tryz.underlying5 Tryz.underlying3 (fun _ => by omega)) ?_
      refine s1 (y_bin rfl rfl rfl (fun hg => b_addv (((m * 10 + ((s.getD i 0).toNat - 48) : Nat) : Int)) (by omega) (by omega))) ?_
      refine sr 1 ?_
      refine sgr ?_
      refine s1 (y_bin rfl rfl rfl (fun hg => b_add (by omega))) ?_
      refine sr 1 ?_
      refine S_nil (nK2 (kf := [(2, 3), (6, 6), (8, 8), (49, 63)]) (kl := [(2, 3), (6, 6), (8, 8), (49, 63)]) (i + 1) (m * 10 + ((s.getD i 0).toNat - 48)) ?_ ?_ ?_ ?_)
      · omega
      · exact ⟨by omega, by rw [Nat.pow_succ]; omega, by rw [take_getD (by omega), valD_snoc, hp3]⟩
      · exact ⟨rfl, rfl, trivial⟩
      · exact trivial
    try simp only [nrm] at h50
    refine egs ?_
    refine tx ?_
    refine sr 1 ?_
    refine s1 (y_index_str (j := 0) rfl rfl rfl Tryz.underlying9 (fun _ => hl)) ?_
    refine sr 1 ?_
    refine sgo ?_
    refine T_cond rfl ?_ ?_ <;> intro h66
    · skip
      simp only [decide_eq_true_eq] at h66
      omega
    refine kgx ?_
    refine sr 3 ?_
    refine sgo ?_
    refine tr2 hRb fun w hM => ?_
    have hv : valD s = m := by rw [← hp3, List.take_of_length_le (by omega)]
    exact ⟨by rw [hv], hM.below⟩
  simp at h30
  omega
theorem Atoi_any (s : List UInt8) (h0 : s ≠ []) (h6 : s.length ≤ 18) (hd : ∀ c ∈ s, 48 ≤ c.toNat ∧ c.toNat ≤ 57) (w : World) :
    Calls Tryz.prog 227 #[str s] w fun e w' => e = .returned (.tuple #[.int .i64 (valD s : Nat), .nilIface]) ∧ Below w.heap.size w w' := by
  refine enter_args (args := [str s]) (F := _) Tryz.func227 rfl Tryz.ntmps227 rfl rfl ?_
  intro Rb hRb hRn
  refine tx ?_
  refine sr 2 ?_
  refine sgx ?_
  refine sr 1 ?_
  refine s1 (y_call rfl rfl rfl cf272 (fun _ w _ => iAtoi_any s h0 h6 hd w)) ?_
  refine sr 5 ?_
  refine sgs ?_
  refine tx ?_
  refine sr 1 ?_
  refine s1 (y_bin rfl rfl rfl (fun _ => b_neqII Tryz.underlying75)) ?_
  refine sgo ?_
  refine T_cond rfl ?_ ?_ <;> intro h12
  · skip
    cases h12
  refine kgx ?_
  refine sr 3 ?_
  refine sgo ?_
  refine tr2 hRb fun w hM => ?_
  exact ⟨rfl, hM.below⟩
end Go.Proofs.YtgbldojgbpgjbaaGreatDoor
end
