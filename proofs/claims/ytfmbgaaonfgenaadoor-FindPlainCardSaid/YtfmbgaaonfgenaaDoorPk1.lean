/- Part 1, merged by a program. Conditions as trees: how deep, how many, whether they are right, equal, plain, and for what they hold. Plain trees; no program in sight. Words, names and ids: what the program and the reference say of them. No condition beyond lengths that a machine can hold. Frames: CheckFrame, checkFrames and what the reference has in their places. Conditions: lengths that a machine can hold. Events in plain lists: faults, tags, crumbs, and their faults' codes. No program in sight. Events opened: from the form's reading to 'Evt.Ok'. No condition. Conditions as they lie in memory, and conditions among the arguments opened. No condition. -/
import Derived.Test.YtfmbgaaonfgenaaDoorOpen
import Derived.Test.YtfmbgaaonfgenaaDoorLem
import Derived.Test.YtfmbgaaonfgenaaDoorShelf
import Derived.Shelf.Strings.SlTrimAscii
import Derived.Test.YtfmbgaaonfgenaaDoorApp
import Derived.Test.YtfmbgaaonfgenaaDoorOpnN
import Derived.Test.YtfmbgaaonfgenaaDoorRows
section
namespace Go.Proofs.YtfmbgaaonfgenaaDoor
set_option linter.unusedSimpArgs false
set_option linter.unusedVariables false
set_option maxRecDepth 20000
open Go.RowKit Go.Eng
inductive PC where
  | mk (op : Int) (kids : List PC) (lo hi : Int) (name text : List UInt8)
def PC.op : PC → Int | .mk op _ _ _ _ _ => op
def PC.kids : PC → List PC | .mk _ k _ _ _ _ => k
def PC.lo : PC → Int | .mk _ _ lo _ _ _ => lo
def PC.hi : PC → Int | .mk _ _ _ hi _ _ => hi
def PC.name : PC → List UInt8 | .mk _ _ _ _ n _ => n
def PC.text : PC → List UInt8 | .mk _ _ _ _ _ t => t
mutual
def cntP : PC → Nat
  | .mk _ kids _ _ _ _ => cntL kids + 1
def cntL : List PC → Nat
  | [] => 0
  | k :: r => cntP k + cntL r
end
theorem cntP_pos (c : PC) : 1 ≤ cntP c := by cases c; simp [cntP]
mutual
def depP : PC → Nat
  | .mk _ kids _ _ _ _ => depL kids + 1
def depL : List PC → Nat
  | [] => 0
  | k :: r => max (depP k) (depL r)
end
theorem depL_mem : ∀ {l : List PC} {k : PC}, k ∈ l → depP k ≤ depL l
  | a :: r, k, h => by
    rw [depL]
    rcases List.mem_cons.1 h with rfl | h
    · omega
    · have := depL_mem h; omega
theorem depL_le {n : Nat} : ∀ {l : List PC}, (∀ k ∈ l, depP k ≤ n) → depL l ≤ n
  | [], _ => Nat.zero_le _
  | a :: r, h => by
    rw [depL]
    have h1 := h a List.mem_cons_self
    have h2 := depL_le fun k hk => h k (List.mem_cons_of_mem _ hk)
    omega
theorem depP_kid {c k : PC} (h : k ∈ c.kids) : depP k < depP c := by
  cases c
  have := depL_mem h
  rw [depP]
  exact Nat.lt_succ_of_le this
/-- an induction over kids -/
theorem PC.ind {Q : PC → Prop} (h : ∀ c, (∀ k ∈ c.kids, Q k) → Q c) (c : PC) : Q c := by
  have key : ∀ (n : Nat) (c : PC), depP c ≤ n → Q c := by
    intro n
    induction n with
    | zero => intro c hc; cases c; simp [depP] at hc
    | succ n ih => intro c hc; exact h c fun k hk => ih k (by have := depP_kid hk; omega)
  exact key _ c (Nat.le_refl _)
/-- more than m within one another -/
def deepP : Nat → PC → Bool
  | 0, _ => true
  | m + 1, c => c.kids.any (deepP m)
theorem deepP_iff : ∀ (m : Nat) (c : PC), deepP m c = true ↔ m < depP c
  | 0, c => by cases c; simp [deepP, depP]
  | m + 1, .mk op kids lo hi n t => by
    rw [deepP, List.any_eq_true, depP]
    show (∃ x, x ∈ kids ∧ deepP m x = true) ↔ _
    constructor
    · rintro ⟨x, hx, h⟩
      have := (deepP_iff m x).1 h
      have := depL_mem hx
      omega
    · intro h
      refine Classical.byContradiction fun hn => ?_
      have : depL kids ≤ m := depL_le fun k hk => by
        refine Classical.byContradiction fun hk2 => hn ⟨k, hk, (deepP_iff m k).2 (by omega)⟩
      omega
mutual
def sizeP : PC → Int → Int
  | .mk _ kids _ _ _ _, most => sizeL kids 1 most
def sizeL : List PC → Int → Int → Int
  | [], n, _ => n
  | k :: r, n, most => if most < n then n else sizeL r (n + sizeP k (most - n)) most
end
mutual
theorem sizeP_eq : ∀ (c : PC) (most : Int), 0 ≤ most → sizeP c most = min (cntP c : Int) (most + 1)
  | .mk _ kids _ _ _ _, most, h => by
    rw [sizeP, sizeL_eq kids 1 most (by omega) (by omega), cntP]
    omega
theorem sizeL_eq : ∀ (l : List PC) (n most : Int), 1 ≤ n → n ≤ most + 1 → sizeL l n most = min (n + cntL l) (most + 1)
  | [], n, most, h1, h2 => by rw [sizeL, cntL]; omega
  | k :: r, n, most, h1, h2 => by
    rw [sizeL, cntL]
    have := cntP_pos k
    split
    · omega
    · rw [sizeP_eq k (most - n) (by omega), sizeL_eq r _ most (by omega) (by omega)]
      omega
end
def inB (n lo hi : Int) : Bool := !(decide (n < lo) || decide (hi < n))
def grpB (op : Int) : Bool := decide (op ≤ 3)
def rngB (op : Int) : Bool := decide (4 ≤ op) && decide (op ≤ 6)
def nmdB (op : Int) : Bool := decide (op = 7) || decide (op = 8)
def wrdB (op : Int) : Bool := decide (op = 7) || decide (9 ≤ op)
def loR (op : Int) : Int := if op = 5 then 0 else 1
def hiR (op : Int) : Int := if op = 5 then 3155759999 else if op = 6 then 1000000 else 5
/-! ### Equal -/
mutual
def sameP : PC → PC → Bool
  | .mk op kids lo hi n t, .mk op' kids' lo' hi' n' t' => decide (op = op') && (decide (lo = lo') && (decide (hi = hi') && (decide (n = n') && (decide (t = t') && sameL kids kids'))))
def sameL : List PC → List PC → Bool
  | [], [] => true
  | a :: r, b :: s => sameP a b && sameL r s
  | [], _ :: _ => false
  | _ :: _, [] => false
end
mutual
theorem sameP_refl : ∀ c : PC, sameP c c = true
  | .mk op kids lo hi n t => by simp [sameP, sameL_refl kids]
theorem sameL_refl : ∀ l : List PC, sameL l l = true
  | [] => rfl
  | a :: r => by rw [sameL, sameP_refl a, sameL_refl r]; rfl
end
/-! ### Plain -/
def joinB (op : Int) (k : PC) : Bool := (decide (op = 1) || decide (op = 2)) && decide (k.op = op)
def addK (op : Int) (out : List PC) (k : PC) : List PC := if joinB op k = true then out ++ k.kids else out ++ [k]
def pc0 : PC := .mk 0 [] 0 0 [] []
def finP (op : Int) (kids : List PC) (lo hi : Int) (n t : List UInt8) : PC :=
  if op = 3 ∧ (kids.getD 0 pc0).op = 3 then (kids.getD 0 pc0).kids.getD 0 pc0 else .mk op kids lo hi n t
mutual
def plainP : PC → PC
  | .mk op kids lo hi n t => finP op (plainL op kids []) lo hi n t
def plainL (op : Int) : List PC → List PC → List PC
  | [], out => out
  | k :: r, out => plainL op r (addK op out (plainP k))
end
/-! ### Holds -/
mutual
def holdsP (lf : PC → Bool) : PC → Bool
  | .mk op kids lo hi n t => if op = 1 then holdsA lf kids else if op = 2 then holdsO lf kids else if op = 3 then !holdsF lf kids else lf (.mk op [] lo hi n t)
def holdsA (lf : PC → Bool) : List PC → Bool
  | [] => true
  | k :: r => holdsP lf k && holdsA lf r
def holdsO (lf : PC → Bool) : List PC → Bool
  | [] => false
  | k :: r => holdsP lf k || holdsO lf r
def holdsF (lf : PC → Bool) : List PC → Bool
  | [] => false
  | k :: _ => holdsP lf k
end
theorem holdsA_all (lf : PC → Bool) : ∀ l : List PC, holdsA lf l = l.all (holdsP lf)
  | [] => rfl
  | k :: r => by rw [holdsA, holdsA_all lf r, List.all_cons]
theorem holdsO_any (lf : PC → Bool) : ∀ l : List PC, holdsO lf l = l.any (holdsP lf)
  | [] => rfl
  | k :: r => by rw [holdsO, holdsO_any lf r, List.any_cons]
/-! ### Right -/
/-- what a condition without its kids is asked: 'nk' is how many kids it has -/
def chdNo (txt : List UInt8 → Int) (nm : List UInt8 → Bool) (op : Int) (nk : Nat) (lo hi : Int) (n t : List UInt8) : Int :=
  if inB op 1 14 = false then 10
  else if (decide (0 < nk) && !grpB op || ((!decide (lo = 0) || !decide (hi = 0)) && !rngB op) || (!decide (n = []) && !nmdB op) || (!decide (t = []) && !wrdB op)) = true then 1
  else if ((decide (op = 1) || decide (op = 2)) && decide (nk < 2) || decide (op = 3) && !decide (nk = 1)) = true then 1
  else if (rngB op && (!inB lo (loR op) (hiR op) || !inB hi (loR op) (hiR op))) = true then 2
  else if (rngB op && decide (hi < lo)) = true then 5
  else if (nmdB op && !nm n) = true then 3
  else if wrdB op = true then txt t else 0
section
variable (hd : Int → Nat → Int → Int → List UInt8 → List UInt8 → Int)
mutual
def chkP : PC → Int
  | .mk op kids lo hi n t => if hd op kids.length lo hi n t ≠ 0 then hd op kids.length lo hi n t else chkL kids
def chkL : List PC → Int
  | [] => 0
  | k :: r => if chkP k ≠ 0 then chkP k else chkL r
end
end
end Go.Proofs.YtfmbgaaonfgenaaDoor
end
section
namespace Go.Proofs.YtfmbgaaonfgenaaDoor
set_option linter.unusedSimpArgs false
set_option linter.unusedVariables false
set_option maxRecDepth 20000
open Go.RowKit Go.Eng
theorem IndexByte_any (s : List UInt8) (c : UInt8) (w : World) :
    Calls Tryd.prog 86 #[str s, .int .u8 (c.toNat : Int)] w fun e w' => e = .returned (.int .i64 (Lib.indexByte s c)) ∧ Below w.heap.size w w' := by
  refine (Tryd.strings_IndexByte ⟨s.toArray⟩ (c.toNat : Int) w).mono fun e w' ⟨h1, h2⟩ => ⟨?_, h2 ▸ Below.refl _ _⟩
  rw [h1]; simp
def hexs : List UInt8 := [48, 49, 50, 51, 52, 53, 54, 55, 56, 57, 97, 98, 99, 100, 101, 102]
theorem TrimHex_any (s : List UInt8) (hs : s.length ≤ 1000) (w : World) :
    Calls Tryd.prog 15 #[str s, str hexs] w fun e w' => e = .returned (str (Lib.trimS s hexs)) ∧ Below w.heap.size w w' :=
  Any.strings_Trim_laid Tryd.lays160 (by kernel_rfl) ⟨s.toArray⟩ ⟨hexs.toArray⟩ w (by rw [Lib.size_eq]; simp; omega) (by decide) (ascii_of_all (by decide))

/-- 16 digits of base 16 -/
def idOk (s : List UInt8) : Bool := decide ((s.length : Int) = 16) && decide (Lib.trimS s hexs = [])

/-- visible bytes alone, none of some others -/
def byteBad (wo : List UInt8) (c : UInt8) : Bool := decide ((c.toNat : Int) < 33) || decide ((126 : Int) < (c.toNat : Int)) || wo.contains c
def wordOk (wo s : List UInt8) : Bool := !(s.any (byteBad wo))
theorem wordOk_bad {wo : List UInt8} {c : UInt8} {r : List UInt8} (h : byteBad wo c = true) : wordOk wo (c :: r) = false := by simp [wordOk, h]
theorem wordOk_next {wo : List UInt8} {c : UInt8} {r : List UInt8} (h : byteBad wo c = false) : wordOk wo (c :: r) = wordOk wo r := by simp [wordOk, h]
theorem isWord_any (s wo : List UInt8) (hs : s.length ≤ 4611686018427387904) (w : World) :
    Calls Tryd.prog 80 #[str s, str wo] w fun e w' => e = .returned (.bool (wordOk wo s)) ∧ Below w.heap.size w w' := by
  refine enter_args (args := [str s, str wo]) (F := _) Tryd.func80 rfl Tryd.ntmps80 rfl rfl ?_
  intro Rb hRb hRn
  refine T_seq ?_
  refine T_region ?_
  refine S_ 4 rfl rfl rfl _ (y_assign rfl rfl) ?_
  refine S_go (fun _ _ h => h) ?_
  refine T_seq ?_
  refine T_seq ?_
  refine T_region ?_
  refine S_ 6 rfl rfl rfl _ (y_move rfl rfl) ?_
  refine S_ 7 rfl rfl rfl _ (y_len_str rfl rfl Tryd.underlying9) ?_
  refine S_ 8 rfl rfl rfl _ (y_move rfl rfl) ?_
  refine S_go (fun _ _ h => h) ?_
  refine T_block ?_
  refine T_loopK1 (kf := [(4, 5), (8, 29)]) (kl := [(4, 5), (8, 29)]) (fun (i : Nat) => [(8, true, .int .i64 (i : Int))]) (fun (i : Nat) => []) (fun (i : Nat) => i ≤ s.length ∧ wordOk wo s = wordOk wo (s.drop i)) (fun (i : Nat) => s.length - i) 0 (by repeat (first | exact kf_nil | (apply kf_in; focus rfl) | (apply kf_out; focus rfl))) (by repeat (first | exact kl_nil | exact kl_rest (by assumption) rfl | (apply kl_in; focus rfl) | (apply kl_out; focus rfl))) ?_ ?_ ?_ ?_
  · exact ⟨by omega, rfl⟩
  · exact ⟨rfl, trivial⟩
  · exact trivial
  rintro i ⟨hp1, hp2⟩
  refine T_seq ?_
  refine T_region ?_
  refine S_ 9 rfl rfl rfl _ (y_bin rfl rfl rfl (fun _ => b_lss)) ?_
  refine S_go (fun _ _ h => h) ?_
  refine T_seq ?_
  refine T_cond rfl (fun h9 => ?_) (fun h9 => ?_)
  · try simp only [decide_eq_true_eq, decide_eq_false_iff_not, Bool.or_eq_true, Bool.or_eq_false_iff, Bool.and_eq_true, Bool.and_eq_false_iff, Bool.not_eq_true', Bool.not_eq_false', Bool.not_eq_true, Bool.not_eq_false, Bool.not_true, Bool.not_false, Int.not_lt, Int.not_le, not_or, not_and, Classical.not_not] at h9
    refine T_skip_go (fun _ _ h => h) ?_
    refine T_seq ?_
    refine T_block ?_
    refine T_seq ?_
    refine T_region ?_
    refine S_ 10 rfl rfl rfl _ (y_move rfl rfl) ?_
    refine S_ 5 rfl rfl rfl _ (y_assign rfl rfl) ?_
    refine S_go (fun _ _ h => h) ?_
    refine T_seq ?_
    refine T_region ?_
    refine S_ 11 rfl rfl rfl _ (y_move rfl rfl) ?_
    refine S_ 12 rfl rfl rfl _ (y_move rfl rfl) ?_
    refine S_ 13 rfl rfl rfl _ (y_index_str rfl rfl rfl Tryd.underlying9 (fun _ => by omega)) ?_
    refine S_ 14 rfl rfl rfl _ (y_bin rfl rfl rfl (fun _ => b_lss)) ?_
    refine S_ 15 rfl rfl rfl _ (y_move rfl rfl) ?_
    refine Sg_ 16 rfl rfl rfl rfl rfl rfl _ (y_move rfl rfl) ?_
    refine Sg_ 17 rfl rfl rfl rfl rfl rfl _ (y_move rfl rfl) ?_
    refine Sg_ 18 rfl rfl rfl rfl rfl rfl _ (y_index_str rfl rfl rfl Tryd.underlying9 (fun hg => by simp only [Bool.true_and, Bool.and_eq_true, beq_iff_eq, decide_eq_true_eq, decide_eq_false_iff_not, Int.not_lt, Int.not_le] at hg; omega)) ?_
    refine Sg_ 19 rfl rfl rfl rfl rfl rfl _ (y_bin rfl rfl rfl (fun _ => b_gtr)) ?_
    refine S_ 20 rfl rfl rfl _ (y_or rfl rfl rfl) ?_
    refine S_ 21 rfl rfl rfl _ (y_move rfl rfl) ?_
    refine Sg_ 22 rfl rfl rfl rfl rfl rfl _ (y_move rfl rfl) ?_
    refine Sg_ 23 rfl rfl rfl rfl rfl rfl _ (y_move rfl rfl) ?_
    refine Sg_ 24 rfl rfl rfl rfl rfl rfl _ (y_move rfl rfl) ?_
    refine Sg_ 25 rfl rfl rfl rfl rfl rfl _ (y_index_str rfl rfl rfl Tryd.underlying9 (fun hg => by simp only [Bool.true_and, Bool.and_eq_true, beq_iff_eq, decide_eq_true_eq, decide_eq_false_iff_not, Int.not_lt, Int.not_le] at hg; omega)) ?_
    refine Sg_ 26 rfl rfl rfl rfl rfl rfl _ (y_call rfl rfl rfl cf86 (fun _ w _ => IndexByte_any _ _ w)) ?_
    refine Sg_ 27 rfl rfl rfl rfl rfl rfl _ (y_as (v' := .bool (wo.contains (s.getD i 0))) (by rw [Lib.contains_iff_indexByte]) (y_bin rfl rfl rfl (fun _ => b_geq))) ?_
    refine S_ 28 rfl rfl rfl _ (y_as (v' := .bool (byteBad wo (s.getD i 0))) (by exact rfl) (y_or rfl rfl rfl)) ?_
    refine S_go (fun _ _ h => h) ?_
    refine T_cond rfl (fun h28 => ?_) (fun h28 => ?_)
    · skip
      refine T_seq ?_
      refine T_region ?_
      refine S_ 4 rfl rfl rfl _ (y_assign rfl rfl) ?_
      refine S_go (fun _ _ h => h) ?_
      refine T_ret (fun a w hF hM => hRb a w (post1 rfl rfl (fun w hM => ?_) a w hF hM))
      exact ⟨by rw [hp2, drop_str (by omega), wordOk_bad h28], hM.below⟩
    · skip
      refine T_skip_go (fun _ _ h => h) ?_
      refine T_region ?_
      refine S_ 29 rfl rfl rfl _ (y_bin rfl rfl rfl (fun hg => b_add (by omega))) ?_
      refine S_ 8 rfl rfl rfl _ (y_move rfl rfl) ?_
      refine S_nil (nextK1 (kf := [(4, 5), (8, 29)]) (kl := [(4, 5), (8, 29)]) (i + 1) (by repeat (first | exact kf_nil | (apply kf_in; focus rfl) | (apply kf_out; focus rfl))) (by repeat (first | exact kl_nil | exact kl_rest (by assumption) rfl | (apply kl_in; focus rfl) | (apply kl_out; focus rfl))) ?_ ?_ ?_ ?_)
      · omega
      · exact ⟨by omega, by rw [hp2, drop_str (by omega), wordOk_next h28]⟩
      · exact ⟨rfl, trivial⟩
      · exact trivial
  · try simp only [decide_eq_true_eq, decide_eq_false_iff_not, Bool.or_eq_true, Bool.or_eq_false_iff, Bool.and_eq_true, Bool.and_eq_false_iff, Bool.not_eq_true', Bool.not_eq_false', Bool.not_eq_true, Bool.not_eq_false, Bool.not_true, Bool.not_false, Int.not_lt, Int.not_le, not_or, not_and, Classical.not_not] at h9
    refine T_exit_go (fun _ _ h => h) ?_
    refine T_seq ?_
    refine T_region ?_
    refine S_ 4 rfl rfl rfl _ (y_assign rfl rfl) ?_
    refine S_go (fun _ _ h => h) ?_
    refine T_ret (fun a w hF hM => hRb a w (post1 rfl rfl (fun w hM => ?_) a w hF hM))
    exact ⟨by rw [hp2, List.drop_eq_nil_of_le (by omega)]; rfl, hM.below⟩
end Go.Proofs.YtfmbgaaonfgenaaDoor
end
section
namespace Go.Proofs.YtfmbgaaonfgenaaDoor
set_option linter.unusedSimpArgs false
set_option linter.unusedVariables false
set_option maxRecDepth 20000
open Go.RowKit Go.Eng
abbrev marks : List UInt8 := [40, 41, 58, 44]
/-- the fault of three words of a frame -/
def wordsNo (m f fi : List UInt8) : Int :=
  if (decide ((200 : Int) < (m.length : Int)) || decide ((200 : Int) < (f.length : Int)) || decide ((200 : Int) < (fi.length : Int))) = true then 4
  else if (!(wordOk marks m) || !(wordOk marks f) || !(wordOk marks fi)) = true then 9
  else if f = [] then 1 else 0
theorem if_t {α : Type} {c : Bool} {a b : α} (h : c = true) : (if c = true then a else b) = a := if_pos h
theorem if_f {α : Type} {c : Bool} {a b : α} (h : c = false) : (if c = true then a else b) = b := if_neg (by simp [h])
structure Frm where
  m : List UInt8
  f : List UInt8
  fi : List UInt8
  ln : Int
  ad : Int
  own : Bool
def Frm.enc (x : Frm) : List Value := [str x.m, str x.f, str x.fi, .int .i64 x.ln, .int .i64 x.ad, .bool x.own]
def Frm.val (x : Frm) : Value := .agg x.enc.toArray
/-- the fault of a frame -/
def frmNo (x : Frm) : Int :=
  if wordsNo x.m x.f x.fi ≠ 0 then wordsNo x.m x.f x.fi
  else if (decide (x.ln < 0) || decide (9999999 < x.ln) || (decide (x.ad < -1) || decide (281474976710655 < x.ad))) = true then 2
  else if x.ln ≠ 0 ∧ x.fi = [] then 1 else 0
theorem frmNo_words {x : Frm} {k : Int} (h : wordsNo x.m x.f x.fi = k) (hk : k ≠ 0) : frmNo x = k := by unfold frmNo; rw [h, if_pos hk]
theorem frmNo_rest {x : Frm} (h : wordsNo x.m x.f x.fi = 0) : frmNo x = if (decide (x.ln < 0) || decide (9999999 < x.ln) || (decide (x.ad < -1) || decide (281474976710655 < x.ad))) = true then 2
  else if x.ln ≠ 0 ∧ x.fi = [] then 1 else 0 := by unfold frmNo; rw [h, if_neg (by simp)]
theorem soutside_any (n lo hi : Int) (w : World) :
    Calls Tryd.prog 93 #[.int .i64 n, .int .i64 lo, .int .i64 hi] w fun e w' => e = .returned (.bool (decide (n < lo) || decide (hi < n))) ∧ Below w.heap.size w w' := by
  refine enter_args (args := [.int .i64 n, .int .i64 lo, .int .i64 hi]) (F := _) Tryd.func93 rfl Tryd.ntmps93 rfl rfl ?_
  intro Rb hRb hRn
  refine T_seq ?_
  refine T_region ?_
  refine S_ 6 rfl rfl rfl _ (y_assign rfl rfl) ?_
  refine S_go (fun _ _ h => h) ?_
  refine T_seq ?_
  refine T_region ?_
  refine S_ 7 rfl rfl rfl _ (y_move rfl rfl) ?_
  refine S_ 8 rfl rfl rfl _ (y_move rfl rfl) ?_
  refine S_ 9 rfl rfl rfl _ (y_bin rfl rfl rfl (fun _ => b_lss)) ?_
  refine S_ 10 rfl rfl rfl _ (y_move rfl rfl) ?_
  refine Sg_ 11 rfl rfl rfl rfl rfl rfl _ (y_move rfl rfl) ?_
  refine Sg_ 12 rfl rfl rfl rfl rfl rfl _ (y_move rfl rfl) ?_
  refine Sg_ 13 rfl rfl rfl rfl rfl rfl _ (y_bin rfl rfl rfl (fun _ => b_gtr)) ?_
  refine S_ 14 rfl rfl rfl _ (y_or rfl rfl rfl) ?_
  refine S_ 6 rfl rfl rfl _ (y_assign rfl rfl) ?_
  refine S_go (fun _ _ h => h) ?_
  refine T_ret (fun a w hF hM => hRb a w (post1 rfl rfl (fun w hM => ?_) a w hF hM))
  exact ⟨rfl, hM.below⟩
theorem CheckFrame_any (x : Frm) (hl1 : x.m.length ≤ 4611686018427387904) (hl2 : x.f.length ≤ 4611686018427387904) (hl3 : x.fi.length ≤ 4611686018427387904) (w : World) :
    Calls Tryd.prog 87 #[x.val] w fun e w' => e = .returned (.int .i64 (frmNo x)) ∧ Below w.heap.size w w' := by
  obtain ⟨m, f, fi, ln, ad, own⟩ := x
  simp only at hl1 hl2 hl3
  refine enter_args (args := [.agg #[str m, str f, str fi, .int .i64 ln, .int .i64 ad, .bool own]]) (F := _) Tryd.func87 rfl Tryd.ntmps87 rfl rfl ?_
  intro Rb hRb hRn
  refine T_seq ?_
  refine T_region ?_
  refine S_box 1 1 rfl rfl rfl rfl rfl ?_
  intro b1
  refine S_ 2 rfl rfl rfl _ (y_assign rfl rfl) ?_
  refine S_go (fun _ _ h => h) ?_
  refine T_seq ?_
  refine T_block ?_
  refine T_seq ?_
  refine T_region ?_
  refine S_ 4 rfl rfl rfl _ (y_fieldAddr rfl rfl fa65_0) ?_
  refine S_ 5 rfl rfl rfl _ (y_load 1 rfl rfl rfl rfl Tryd.underlying9 rfl) ?_
  refine S_ 6 rfl rfl rfl _ (y_len_str rfl rfl Tryd.underlying9) ?_
  refine S_ 7 rfl rfl rfl _ (y_bin rfl rfl rfl (fun _ => b_gtr)) ?_
  refine S_ 8 rfl rfl rfl _ (y_move rfl rfl) ?_
  refine Sg_ 9 rfl rfl rfl rfl rfl rfl _ (y_fieldAddr rfl rfl fa65_1) ?_
  refine Sg_ 10 rfl rfl rfl rfl rfl rfl _ (y_load 1 rfl rfl rfl rfl Tryd.underlying9 rfl) ?_
  refine Sg_ 11 rfl rfl rfl rfl rfl rfl _ (y_len_str rfl rfl Tryd.underlying9) ?_
  refine Sg_ 12 rfl rfl rfl rfl rfl rfl _ (y_bin rfl rfl rfl (fun _ => b_gtr)) ?_
  refine S_ 13 rfl rfl rfl _ (y_or rfl rfl rfl) ?_
  refine S_ 14 rfl rfl rfl _ (y_move rfl rfl) ?_
  refine Sg_ 15 rfl rfl rfl rfl rfl rfl _ (y_fieldAddr rfl rfl fa65_2) ?_
  refine Sg_ 16 rfl rfl rfl rfl rfl rfl _ (y_load 1 rfl rfl rfl rfl Tryd.underlying9 rfl) ?_
  refine Sg_ 17 rfl rfl rfl rfl rfl rfl _ (y_len_str rfl rfl Tryd.underlying9) ?_
  refine Sg_ 18 rfl rfl rfl rfl rfl rfl _ (y_bin rfl rfl rfl (fun _ => b_gtr)) ?_
  refine S_ 19 rfl rfl rfl _ (y_or rfl rfl rfl) ?_
  refine S_ 3 rfl rfl rfl _ (y_assign rfl rfl) ?_
  refine S_go (fun _ _ h => h) ?_
  refine T_cond rfl (fun h3 => ?_) (fun h3 => ?_)
  · skip
    refine T_seq ?_
    refine T_region ?_
    refine S_ 2 rfl rfl rfl _ (y_assign rfl rfl) ?_
    refine S_go (fun _ _ h => h) ?_
    refine T_ret (fun a w hF hM => hRb a w (post1 rfl rfl (fun w hM => ?_) a w hF hM))
    exact ⟨by rw [frmNo_words (x := ⟨m, f, fi, ln, ad, own⟩) (if_t h3) (by decide)], hM.below⟩
  · skip
    refine T_seq ?_
    refine T_region ?_
    refine S_ 21 rfl rfl rfl _ (y_fieldAddr rfl rfl fa65_0) ?_
    refine S_ 22 rfl rfl rfl _ (y_load 1 rfl rfl rfl rfl Tryd.underlying9 rfl) ?_
    refine S_ 23 rfl rfl rfl _ (y_call rfl rfl rfl cf80 (fun hg w _ => isWord_any _ _ (by first | omega | (have := hsz; omega)) w)) ?_
    refine S_ 24 rfl rfl rfl _ (y_not rfl rfl) ?_
    refine S_ 25 rfl rfl rfl _ (y_move rfl rfl) ?_
    refine Sg_ 26 rfl rfl rfl rfl rfl rfl _ (y_fieldAddr rfl rfl fa65_1) ?_
    refine Sg_ 27 rfl rfl rfl rfl rfl rfl _ (y_load 1 rfl rfl rfl rfl Tryd.underlying9 rfl) ?_
    refine Sg_ 28 rfl rfl rfl rfl rfl rfl _ (y_call rfl rfl rfl cf80 (fun hg w _ => isWord_any _ _ (by first | omega | (have := hsz; omega)) w)) ?_
    refine Sg_ 29 rfl rfl rfl rfl rfl rfl _ (y_not rfl rfl) ?_
    refine S_ 30 rfl rfl rfl _ (y_or rfl rfl rfl) ?_
    refine S_ 31 rfl rfl rfl _ (y_move rfl rfl) ?_
    refine Sg_ 32 rfl rfl rfl rfl rfl rfl _ (y_fieldAddr rfl rfl fa65_2) ?_
    refine Sg_ 33 rfl rfl rfl rfl rfl rfl _ (y_load 1 rfl rfl rfl rfl Tryd.underlying9 rfl) ?_
    refine Sg_ 34 rfl rfl rfl rfl rfl rfl _ (y_call rfl rfl rfl cf80 (fun hg w _ => isWord_any _ _ (by first | omega | (have := hsz; omega)) w)) ?_
    refine Sg_ 35 rfl rfl rfl rfl rfl rfl _ (y_not rfl rfl) ?_
    refine S_ 36 rfl rfl rfl _ (y_or rfl rfl rfl) ?_
    refine S_ 20 rfl rfl rfl _ (y_assign rfl rfl) ?_
    refine S_go (fun _ _ h => h) ?_
    refine T_cond rfl (fun h20 => ?_) (fun h20 => ?_)
    · skip
      refine T_seq ?_
      refine T_region ?_
      refine S_ 2 rfl rfl rfl _ (y_assign rfl rfl) ?_
      refine S_go (fun _ _ h => h) ?_
      refine T_ret (fun a w hF hM => hRb a w (post1 rfl rfl (fun w hM => ?_) a w hF hM))
      exact ⟨by rw [frmNo_words (x := ⟨m, f, fi, ln, ad, own⟩) ((if_f h3).trans (if_t h20)) (by decide)], hM.below⟩
    · skip
      refine T_seq ?_
      refine T_region ?_
      refine S_ 38 rfl rfl rfl _ (y_fieldAddr rfl rfl fa65_1) ?_
      refine S_ 39 rfl rfl rfl _ (y_load 1 rfl rfl rfl rfl Tryd.underlying9 rfl) ?_
      refine S_ 40 rfl rfl rfl _ (y_bin rfl rfl rfl (fun _ => b_eqls)) ?_
      refine S_ 37 rfl rfl rfl _ (y_assign rfl rfl) ?_
      refine S_go (fun _ _ h => h) ?_
      refine T_cond rfl (fun h37 => ?_) (fun h37 => ?_)
      · skip
        refine T_seq ?_
        refine T_region ?_
        refine S_ 2 rfl rfl rfl _ (y_assign rfl rfl) ?_
        refine S_go (fun _ _ h => h) ?_
        refine T_ret (fun a w hF hM => hRb a w (post1 rfl rfl (fun w hM => ?_) a w hF hM))
        exact ⟨by rw [frmNo_words (x := ⟨m, f, fi, ln, ad, own⟩) ((if_f h3).trans ((if_f h20).trans (if_pos (by simpa using h37)))) (by decide)], hM.below⟩
      · skip
        refine T_seq ?_
        refine T_region ?_
        refine S_ 42 rfl rfl rfl _ (y_fieldAddr rfl rfl fa65_3) ?_
        refine S_ 43 rfl rfl rfl _ (y_load 1 rfl rfl rfl rfl Tryd.underlying3 rfl) ?_
        refine S_ 44 rfl rfl rfl _ (y_call rfl rfl rfl cf93 (fun _ w _ => soutside_any _ _ _ w)) ?_
        refine S_ 45 rfl rfl rfl _ (y_move rfl rfl) ?_
        refine Sg_ 46 rfl rfl rfl rfl rfl rfl _ (y_fieldAddr rfl rfl fa65_4) ?_
        refine Sg_ 47 rfl rfl rfl rfl rfl rfl _ (y_load 1 rfl rfl rfl rfl Tryd.underlying3 rfl) ?_
        refine Sg_ 48 rfl rfl rfl rfl rfl rfl _ (y_call rfl rfl rfl cf93 (fun _ w _ => soutside_any _ _ _ w)) ?_
        refine S_ 49 rfl rfl rfl _ (y_or rfl rfl rfl) ?_
        refine S_ 41 rfl rfl rfl _ (y_assign rfl rfl) ?_
        refine S_go (fun _ _ h => h) ?_
        refine T_cond rfl (fun h41 => ?_) (fun h41 => ?_)
        · skip
          refine T_seq ?_
          refine T_region ?_
          refine S_ 2 rfl rfl rfl _ (y_assign rfl rfl) ?_
          refine S_go (fun _ _ h => h) ?_
          refine T_ret (fun a w hF hM => hRb a w (post1 rfl rfl (fun w hM => ?_) a w hF hM))
          exact ⟨by rw [frmNo_rest (x := ⟨m, f, fi, ln, ad, own⟩) ((if_f h3).trans ((if_f h20).trans (if_neg (by simpa using h37)))), if_t h41], hM.below⟩
        · skip
          refine T_seq ?_
          refine T_region ?_
          refine S_ 51 rfl rfl rfl _ (y_fieldAddr rfl rfl fa65_3) ?_
          refine S_ 52 rfl rfl rfl _ (y_load 1 rfl rfl rfl rfl Tryd.underlying3 rfl) ?_
          refine S_ 53 rfl rfl rfl _ (y_bin rfl rfl rfl (fun _ => b_neq)) ?_
          refine S_ 54 rfl rfl rfl _ (y_move rfl rfl) ?_
          refine Sg_ 55 rfl rfl rfl rfl rfl rfl _ (y_fieldAddr rfl rfl fa65_2) ?_
          refine Sg_ 56 rfl rfl rfl rfl rfl rfl _ (y_load 1 rfl rfl rfl rfl Tryd.underlying9 rfl) ?_
          refine Sg_ 57 rfl rfl rfl rfl rfl rfl _ (y_bin rfl rfl rfl (fun _ => b_eqls)) ?_
          refine S_ 58 rfl rfl rfl _ (y_and rfl rfl rfl) ?_
          refine S_ 50 rfl rfl rfl _ (y_assign rfl rfl) ?_
          refine S_go (fun _ _ h => h) ?_
          refine T_cond rfl (fun h50 => ?_) (fun h50 => ?_)
          · skip
            refine T_seq ?_
            refine T_region ?_
            refine S_ 2 rfl rfl rfl _ (y_assign rfl rfl) ?_
            refine S_go (fun _ _ h => h) ?_
            refine T_ret (fun a w hF hM => hRb a w (post1 rfl rfl (fun w hM => ?_) a w hF hM))
            exact ⟨by rw [frmNo_rest (x := ⟨m, f, fi, ln, ad, own⟩) ((if_f h3).trans ((if_f h20).trans (if_neg (by simpa using h37)))), if_f h41, if_pos (by simpa using h50)], hM.below⟩
          · skip
            refine T_skip_go (fun _ _ h => h) ?_
            refine T_seq ?_
            refine T_region ?_
            refine S_ 2 rfl rfl rfl _ (y_assign rfl rfl) ?_
            refine S_go (fun _ _ h => h) ?_
            refine T_ret (fun a w hF hM => hRb a w (post1 rfl rfl (fun w hM => ?_) a w hF hM))
            exact ⟨by rw [frmNo_rest (x := ⟨m, f, fi, ln, ad, own⟩) ((if_f h3).trans ((if_f h20).trans (if_neg (by simpa using h37)))), if_f h41, if_neg (by simpa using h50)], hM.below⟩

/-! ### The reference's -/
theorem any_t {α : Type} {p : α → Bool} {a : α} {r : List α} (h : p a = true) : (a :: r).any p = true := by simp [h]
theorem any_f {α : Type} {p : α → Bool} {a : α} {r : List α} (h : p a = false) : (a :: r).any p = r.any p := by simp [h]
theorem mem_at {α : Type} {l : List α} {i : Nat} {x : α} (h : l[i]? = some x) : x ∈ l := List.mem_of_getElem? h
structure FrmsOk (w : World) (l : Sl Frm) : Prop where
  ok : l.Ok Frm.enc 6 w
  q : l.q ≤ 4611686018427387904
  n : ∀ f ∈ l.l, f.m.length ≤ 4611686018427387904 ∧ f.f.length ≤ 4611686018427387904 ∧ f.fi.length ≤ 4611686018427387904
theorem FrmsOk.below {w w' : World} {l : Sl Frm} (h : FrmsOk w l) (hb : Below w.heap.size w w') : FrmsOk w' l := ⟨h.ok.below hb, h.q, h.n⟩
def frmsNo : List Frm → Int
  | [] => 0
  | f :: r => if frmNo f ≠ 0 then frmNo f else frmsNo r
def framesNo (l : Sl Frm) : Int := if (200 : Int) < l.q then 4 else frmsNo l.l
theorem checkFrames_any (l : Sl Frm) (w : World) (hl : FrmsOk w l) :
    Calls Tryd.prog 81 #[.slice l.A l.q l.c] w fun e w' => e = .returned (.int .i64 (framesNo l)) ∧ Below w.heap.size w w' := by
  have ht := hl.ok.t
  have hq := hl.q
  refine enter_args (args := [.slice l.A l.q l.c]) (F := _) Tryd.func81 rfl Tryd.ntmps81 rfl rfl ?_
  intro Rb hRb hRn
  refine T_seq ?_
  refine T_region ?_
  refine S_ 2 rfl rfl rfl _ (y_assign rfl rfl) ?_
  refine S_go (fun _ _ h => h) ?_
  refine T_seq ?_
  refine T_seq ?_
  refine T_region ?_
  refine S_ 6 rfl rfl rfl _ (y_move rfl rfl) ?_
  refine S_ 7 rfl rfl rfl _ (y_len_slice rfl rfl Tryd.underlying58) ?_
  refine S_ 8 rfl rfl rfl _ (y_bin rfl rfl rfl (fun _ => b_gtr)) ?_
  refine S_go (fun _ _ h => h) ?_
  refine T_cond rfl (fun h8 => ?_) (fun h8 => ?_)
  · try simp only [decide_eq_true_eq, decide_eq_false_iff_not, Bool.or_eq_true, Bool.or_eq_false_iff, Bool.and_eq_true, Bool.and_eq_false_iff, Bool.not_eq_true', Bool.not_eq_false', Bool.not_eq_true, Bool.not_eq_false, Bool.not_true, Bool.not_false, Int.not_lt, Int.not_le, not_or, not_and, Classical.not_not] at h8
    refine T_seq ?_
    refine T_region ?_
    refine S_ 2 rfl rfl rfl _ (y_assign rfl rfl) ?_
    refine S_go (fun _ _ h => h) ?_
    refine T_ret (fun a w hF hM => hRb a w (post1 rfl rfl (fun w hM => ?_) a w hF hM))
    exact ⟨by rw [framesNo, if_pos (by omega)], hM.below⟩
  · try simp only [decide_eq_true_eq, decide_eq_false_iff_not, Bool.or_eq_true, Bool.or_eq_false_iff, Bool.and_eq_true, Bool.and_eq_false_iff, Bool.not_eq_true', Bool.not_eq_false', Bool.not_eq_true, Bool.not_eq_false, Bool.not_true, Bool.not_false, Int.not_lt, Int.not_le, not_or, not_and, Classical.not_not] at h8
    refine T_skip_go (fun _ _ h => h) ?_
    refine T_seq ?_
    refine T_seq ?_
    refine T_region ?_
    refine S_ 9 rfl rfl rfl _ (y_move rfl rfl) ?_
    refine S_ 10 rfl rfl rfl _ (y_len_slice rfl rfl Tryd.underlying58) ?_
    refine S_ 11 rfl rfl rfl _ (y_move rfl rfl) ?_
    refine S_go (fun _ _ h => h) ?_
    refine T_block ?_
    refine T_loopK1 (kf := [(2, 2), (4, 5), (11, 20)]) (kl := [(2, 2), (4, 5), (11, 20)]) (fun (i : Nat) => [(11, true, .int .i64 (i : Int))]) (fun (i : Nat) => []) (fun (i : Nat) => i ≤ l.q ∧ frmsNo l.l = frmsNo (l.l.drop i)) (fun (i : Nat) => l.q - i) 0 (by repeat (first | exact kf_nil | (apply kf_in; focus rfl) | (apply kf_out; focus rfl))) (by repeat (first | exact kl_nil | exact kl_rest (by assumption) rfl | (apply kl_in; focus rfl) | (apply kl_out; focus rfl))) ?_ ?_ ?_ ?_
    · exact ⟨by omega, rfl⟩
    · exact ⟨rfl, trivial⟩
    · exact trivial
    rintro i ⟨hp1, hp2⟩
    refine T_seq ?_
    refine T_region ?_
    refine S_ 12 rfl rfl rfl _ (y_bin rfl rfl rfl (fun _ => b_lss)) ?_
    refine S_go (fun _ _ h => h) ?_
    refine T_seq ?_
    refine T_cond rfl (fun h12 => ?_) (fun h12 => ?_)
    · try simp only [decide_eq_true_eq, decide_eq_false_iff_not, Bool.or_eq_true, Bool.or_eq_false_iff, Bool.and_eq_true, Bool.and_eq_false_iff, Bool.not_eq_true', Bool.not_eq_false', Bool.not_eq_true, Bool.not_eq_false, Bool.not_true, Bool.not_false, Int.not_lt, Int.not_le, not_or, not_and, Classical.not_not] at h12
      obtain ⟨x, hx1, hx2⟩ := ht.at (i := i) (by omega)
      have hn := hl.n x (mem_at hx1)
      refine T_skip_go (fun _ _ h => h) ?_
      refine T_seq ?_
      refine T_block ?_
      refine T_seq ?_
      refine T_region ?_
      refine S_ 13 rfl rfl rfl _ (y_indexAddr rfl rfl rfl Tryd.underlying58 sz65 (fun hg => ht.isSome (by omega)) (fun _ => by omega)) ?_
      refine S_ 14 rfl rfl rfl _ (y_loadT rfl rfl ht (fun _ => rfl) (fun _ => hx1) Tryd.underlying65 rfl sz65) ?_
      refine S_alloc 4 4 rfl rfl rfl rfl z65 ?_
      intro b4
      refine S_store 4 rfl rfl rfl rfl rfl rfl sz65 rfl rfl ?_
      refine S_go (fun _ _ h => h) ?_
      refine T_seq ?_
      refine T_region ?_
      refine S_ 15 rfl rfl rfl _ (y_loadA 4 rfl rfl rfl Tryd.underlying65 rfl sz65) ?_
      refine S_ 16 rfl rfl rfl _ (y_call rfl rfl rfl cf87 (fun _ w _ => CheckFrame_any x hn.1 hn.2.1 hn.2.2 w)) ?_
      refine S_ 5 rfl rfl rfl _ (y_assign rfl rfl) ?_
      refine S_go (fun _ _ h => h) ?_
      refine T_seq ?_
      refine T_region ?_
      refine S_ 17 rfl rfl rfl _ (y_move rfl rfl) ?_
      refine S_ 18 rfl rfl rfl _ (y_bin rfl rfl rfl (fun _ => b_neq)) ?_
      refine S_go (fun _ _ h => h) ?_
      refine T_cond rfl (fun h18 => ?_) (fun h18 => ?_)
      · try simp only [decide_eq_true_eq, decide_eq_false_iff_not, Bool.or_eq_true, Bool.or_eq_false_iff, Bool.and_eq_true, Bool.and_eq_false_iff, Bool.not_eq_true', Bool.not_eq_false', Bool.not_eq_true, Bool.not_eq_false, Bool.not_true, Bool.not_false, Int.not_lt, Int.not_le, not_or, not_and, Classical.not_not] at h18
        refine T_seq ?_
        refine T_region ?_
        refine S_ 19 rfl rfl rfl _ (y_move rfl rfl) ?_
        refine S_ 2 rfl rfl rfl _ (y_assign rfl rfl) ?_
        refine S_go (fun _ _ h => h) ?_
        refine T_ret (fun a w hF hM => hRb a w (post1 rfl rfl (fun w hM => ?_) a w hF hM))
        exact ⟨by rw [framesNo, if_neg (by omega), hp2, hx2, frmsNo, if_pos h18], hM.below⟩
      · try simp only [decide_eq_true_eq, decide_eq_false_iff_not, Bool.or_eq_true, Bool.or_eq_false_iff, Bool.and_eq_true, Bool.and_eq_false_iff, Bool.not_eq_true', Bool.not_eq_false', Bool.not_eq_true, Bool.not_eq_false, Bool.not_true, Bool.not_false, Int.not_lt, Int.not_le, not_or, not_and, Classical.not_not] at h18
        refine T_skip_go (fun _ _ h => h) ?_
        refine T_region ?_
        refine S_ 20 rfl rfl rfl _ (y_bin rfl rfl rfl (fun hg => b_add (by omega))) ?_
        refine S_ 11 rfl rfl rfl _ (y_move rfl rfl) ?_
        refine S_nil (nextK1 (kf := [(2, 2), (4, 5), (11, 20)]) (kl := [(2, 2), (4, 5), (11, 20)]) (i + 1) (by repeat (first | exact kf_nil | (apply kf_in; focus rfl) | (apply kf_out; focus rfl))) (by repeat (first | exact kl_nil | exact kl_rest (by assumption) rfl | (apply kl_in; focus rfl) | (apply kl_out; focus rfl))) ?_ ?_ ?_ ?_)
        · omega
        · exact ⟨by omega, by rw [hp2, hx2, frmsNo, if_neg (by simpa using h18)]⟩
        · exact ⟨rfl, trivial⟩
        · exact trivial
    · try simp only [decide_eq_true_eq, decide_eq_false_iff_not, Bool.or_eq_true, Bool.or_eq_false_iff, Bool.and_eq_true, Bool.and_eq_false_iff, Bool.not_eq_true', Bool.not_eq_false', Bool.not_eq_true, Bool.not_eq_false, Bool.not_true, Bool.not_false, Int.not_lt, Int.not_le, not_or, not_and, Classical.not_not] at h12
      refine T_exit_go (fun _ _ h => h) ?_
      refine T_seq ?_
      refine T_region ?_
      refine S_ 2 rfl rfl rfl _ (y_assign rfl rfl) ?_
      refine S_go (fun _ _ h => h) ?_
      refine T_ret (fun a w hF hM => hRb a w (post1 rfl rfl (fun w hM => ?_) a w hF hM))
      exact ⟨by rw [framesNo, if_neg (by omega), hp2, ht.end (by omega)]; rfl, hM.below⟩
end Go.Proofs.YtfmbgaaonfgenaaDoor
end
section
namespace Go.Proofs.YtfmbgaaonfgenaaDoor
set_option linter.unusedSimpArgs false
set_option linter.unusedVariables false
set_option maxRecDepth 20000
open Go.RowKit Go.Eng
/-- a name: 1 to 40 bytes, the first one a small letter -/
def nameBs : List UInt8 := [97, 98, 99, 100, 101, 102, 103, 104, 105, 106, 107, 108, 109, 110, 111, 112, 113, 114, 115, 116, 117, 118, 119, 120, 121, 122, 48, 49, 50, 51, 52, 53, 54, 55, 56, 57, 45, 46, 95]
def nameOk (s : List UInt8) : Bool := !decide (s = []) && decide ((s.length : Int) ≤ 40) && decide ((97 : Int) ≤ ((s.getD 0 0).toNat : Int)) && decide (((s.getD 0 0).toNat : Int) ≤ 122) && decide (Lib.trimS s nameBs = [])
def valBad (c : UInt8) : Bool := decide ((c.toNat : Int) < 32) || decide ((126 : Int) < (c.toNat : Int))
def sayBad (c : UInt8) : Bool := decide ((c.toNat : Int) < 32) || decide ((c.toNat : Int) = 127)
def valNo (s : List UInt8) : Int := if (200 : Int) < s.length then 4 else if s.any valBad = true then 9 else 0
def sayNo (s : List UInt8) : Int := if (2000 : Int) < s.length then 4 else if s.any sayBad = true then 9 else 0
structure Flt where
  k : List UInt8
  t : List UInt8
  fr : Sl Frm
def Flt.enc (f : Flt) : List Value := [str f.k, str f.t, .slice f.fr.A f.fr.q f.fr.c]
def Flt.val (f : Flt) : Value := .agg f.enc.toArray
structure STag where
  n : List UInt8
  v : List UInt8
def STag.enc (t : STag) : List Value := [str t.n, str t.v]
structure SCrumb where
  at_ : Int
  k : List UInt8
  t : List UInt8
def SCrumb.enc (c : SCrumb) : List Value := [.int .i64 c.at_, str c.k, str c.t]
structure Evt where
  id : List UInt8
  at_ : Int
  lv : Int
  fa : Sl Flt
  ta : Sl STag
  cr : Sl SCrumb
  rel : List UInt8
  us : List UInt8
  wt : Int
def Evt.enc (e : Evt) : List Value := [str e.id, .int .i64 e.at_, .int .i64 e.lv, .slice e.fa.A e.fa.q e.fa.c, .slice e.ta.A e.ta.q e.ta.c, .slice e.cr.A e.cr.q e.cr.c, str e.rel, str e.us, .int .i64 e.wt]
def Evt.val (e : Evt) : Value := .agg e.enc.toArray
structure FltOk (w : World) (f : Flt) : Prop where
  k : f.k.length ≤ 4611686018427387904
  t : f.t.length ≤ 4611686018427387904
  fr : FrmsOk w f.fr
structure FltsOk (w : World) (l : Sl Flt) : Prop where
  ok : l.Ok Flt.enc 3 w
  q : l.q ≤ 4611686018427387904
  n : ∀ f ∈ l.l, FltOk w f
structure TagsOk (w : World) (l : Sl STag) : Prop where
  ok : l.Ok STag.enc 2 w
  q : l.q ≤ 4611686018427387904
  n : ∀ t ∈ l.l, t.n.length ≤ 4611686018427387904 ∧ t.v.length ≤ 4611686018427387904
structure CrumbsOk (w : World) (l : Sl SCrumb) : Prop where
  ok : l.Ok SCrumb.enc 3 w
  q : l.q ≤ 4611686018427387904
  n : ∀ c ∈ l.l, c.k.length ≤ 4611686018427387904 ∧ c.t.length ≤ 4611686018427387904
structure Evt.Ok (w : World) (e : Evt) : Prop where
  fa : FltsOk w e.fa
  ta : TagsOk w e.ta
  cr : CrumbsOk w e.cr
  id : e.id.length ≤ 4611686018427387904
  rel : e.rel.length ≤ 4611686018427387904
  us : e.us.length ≤ 4611686018427387904
section
variable {w w' : World} (hb : Below w.heap.size w w')
include hb
theorem FltOk.below {f : Flt} (h : FltOk w f) : FltOk w' f := ⟨h.k, h.t, h.fr.below hb⟩
theorem FltsOk.below {l : Sl Flt} (h : FltsOk w l) : FltsOk w' l := ⟨h.ok.below hb, h.q, fun f hf => (h.n f hf).below hb⟩
theorem TagsOk.below {l : Sl STag} (h : TagsOk w l) : TagsOk w' l := ⟨h.ok.below hb, h.q, h.n⟩
theorem CrumbsOk.below {l : Sl SCrumb} (h : CrumbsOk w l) : CrumbsOk w' l := ⟨h.ok.below hb, h.q, h.n⟩
theorem Evt.Ok.below {e : Evt} (h : e.Ok w) : e.Ok w' := ⟨h.fa.below hb, h.ta.below hb, h.cr.below hb, h.id, h.rel, h.us⟩
end
/-! ### The codes of their faults -/
def fltNo (f : Flt) : Int :=
  if (200 : Int) < f.k.length then 4 else if wordOk [58] f.k = false then 9 else if f.k = [] then 1 else if sayNo f.t ≠ 0 then sayNo f.t else framesNo f.fr
def fltsNo : List Flt → Int
  | [] => 0
  | f :: r => if fltNo f ≠ 0 then fltNo f else fltsNo r
def faultsNo (l : Sl Flt) : Int := if l.q = 0 then 7 else if (10 : Int) < l.q then 4 else fltsNo l.l
def tagsNo : Option (List UInt8) → List STag → Int
  | _, [] => 0
  | p, t :: r => if nameOk t.n = false then 3 else if (p.any fun s => Op.bytesLess t.n s || decide (t.n = s)) = true then 5 else if valNo t.v ≠ 0 then valNo t.v else tagsNo (some t.n) r
def crumbsNo : Option Int → List SCrumb → Int
  | _, [] => 0
  | p, c :: r => if (decide (c.at_ < 0) || decide (3155759999 < c.at_)) = true then 2 else if (p.any fun n => decide (c.at_ < n)) = true then 5 else if nameOk c.k = false then 3 else if sayNo c.t ≠ 0 then sayNo c.t else crumbsNo (some c.at_) r
def headNo (id : List UInt8) (at_ lv : Int) : Int := if idOk id = false then 1 else if (decide (at_ < 0) || decide (3155759999 < at_) || (decide (lv < 1) || decide (5 < lv))) = true then 2 else 0
def fst (a b : Int) : Int := if a ≠ 0 then a else b
def evNo (e : Evt) : Int := fst (headNo e.id e.at_ e.lv) (fst (faultsNo e.fa) (fst (if (40 : Int) < e.ta.q then 4 else tagsNo none e.ta.l) (fst (if (50 : Int) < e.cr.q then 4 else crumbsNo none e.cr.l)
  (if (!decide (e.rel = []) && !nameOk e.rel) = true then 3 else fst (valNo e.us) (if (decide (e.wt < 1) || decide (1000000 < e.wt)) = true then 2 else 0)))))
theorem fst_t {a b : Int} (h : ¬ a = 0) : fst a b = a := if_pos h
theorem fst_f {a b : Int} (h : a = 0) : fst a b = b := if_neg (by simp [h])
theorem name_t {s : List UInt8} (h : (decide ((s.length : Int) < 1) || decide ((40 : Int) < (s.length : Int)) || decide (((s.getD 0 0).toNat : Int) < 97) || decide ((122 : Int) < ((s.getD 0 0).toNat : Int))) = true) : nameOk s = false := by
  unfold nameOk
  cases s with
  | nil => rfl
  | cons a r =>
    simp only [Bool.or_eq_true, decide_eq_true_eq, List.length_cons] at h
    rw [Bool.eq_false_iff]
    simp only [ne_eq, Bool.and_eq_true, decide_eq_true_eq, List.length_cons]
    omega
theorem name_f {s : List UInt8} (h : (decide ((s.length : Int) < 1) || decide ((40 : Int) < (s.length : Int)) || decide (((s.getD 0 0).toNat : Int) < 97) || decide ((122 : Int) < ((s.getD 0 0).toNat : Int))) = false) : s.length ≤ 40 ∧ decide (Lib.trimS s nameBs = []) = nameOk s := by
  cases s with
  | nil => simp at h
  | cons a r =>
    simp only [Bool.or_eq_false_iff, decide_eq_false_iff_not, List.length_cons] at h
    refine ⟨by simp only [List.length_cons]; omega, ?_⟩
    unfold nameOk
    rw [show (!decide (a :: r = [])) = true from by simp, show decide (((a :: r).length : Int) ≤ 40) = true from decide_eq_true (by simp only [List.length_cons]; omega), show decide ((97 : Int) ≤ (((a :: r).getD 0 0).toNat : Int)) = true from decide_eq_true (by omega),
      show decide ((((a :: r).getD 0 0).toNat : Int) ≤ 122) = true from decide_eq_true (by omega)]
    rfl
def prevN (i : Nat) (b : STag) : Option (List UInt8) := if i = 0 then none else some b.n
def prevA (i : Nat) (b : SCrumb) : Option Int := if i = 0 then none else some b.at_
theorem prevN_any (i : Nat) (b : STag) (f : List UInt8 → Bool) : (prevN i b).any f = (decide ((0 : Int) < (i : Int)) && f b.n) := by
  unfold prevN
  rcases Nat.eq_zero_or_pos i with h | h
  · simp [h]
  · rw [if_neg (by omega)]; simp [h]
theorem prevA_any (i : Nat) (b : SCrumb) (f : Int → Bool) : (prevA i b).any f = (decide ((0 : Int) < (i : Int)) && f b.at_) := by
  unfold prevA
  rcases Nat.eq_zero_or_pos i with h | h
  · simp [h]
  · rw [if_neg (by omega)]; simp [h]
theorem tagsNo_nil (p : Option (List UInt8)) : tagsNo p [] = 0 := by unfold tagsNo; rfl
theorem crumbsNo_nil (p : Option Int) : crumbsNo p [] = 0 := by unfold crumbsNo; rfl
theorem fltNo_say {f : Flt} {k : Int} (h1 : ¬ (200 : Int) < f.k.length) (h2 : wordOk [58] f.k = true) (h3 : ¬ f.k = []) (h : sayNo f.t = k) (hk : ¬ k = 0) : fltNo f = k := by
  rw [fltNo, if_neg h1, if_neg (by rw [h2]; simp), if_neg h3, h, if_pos hk]
theorem fltNo_frs {f : Flt} (h1 : ¬ (200 : Int) < f.k.length) (h2 : wordOk [58] f.k = true) (h3 : ¬ f.k = []) (h : sayNo f.t = 0) : fltNo f = framesNo f.fr := by
  rw [fltNo, if_neg h1, if_neg (by rw [h2]; simp), if_neg h3, h, if_neg (by simp)]
end Go.Proofs.YtfmbgaaonfgenaaDoor
end
section
namespace Go.Proofs.YtfmbgaaonfgenaaDoor
set_option linter.unusedSimpArgs false
set_option linter.unusedVariables false
set_option maxRecDepth 20000
open Go.RowKit Go.Eng
section
variable {H : Type} {enc : TypeId × Value → H} {w : World}
def IntOk (n : Int) : Prop := (Lit.int .i64 n).wf = true
def ShortS (s : List UInt8) : Prop := s.length ≤ reachBytes
theorem reach_len : reachBytes ≤ 4611686018427387904 := by decide
def strEnc (l : List UInt8) : List Value := [str l]
theorem op_s : Opn enc Tryd.prog w 9 strEnc ShortS (fun l d => d = .lit (.string l)) := opn_str Tryd.underlying9
theorem op_i : Opn enc Tryd.prog w 3 (fun n : Int => [Value.int .i64 n]) IntOk (fun n d => d = .lit (.int .i64 n)) := opn_int Tryd.underlying3
theorem op_b : Opn enc Tryd.prog w 4 (fun b : Bool => [Value.bool b]) (fun _ => True) (fun b d => d = .lit (.bool b)) := opn_bool Tryd.underlying4
def slV {X : Type} (s : Sl X) : List Value := [.slice s.A s.q s.c]
def frmG (f : Frm) : Prop := ShortS f.m ∧ ShortS f.f ∧ ShortS f.fi
theorem op_frm : Opn enc Tryd.prog w 65 Frm.enc frmG (fun _ _ => True) :=
  (opn_struct Tryd.underlying65 co65 (opf_cons op_s rfl co9 (opf_cons op_s rfl co9 (opf_cons op_s rfl co9 (opf_cons op_i rfl co3 (opf_cons op_i rfl co3 (opf_cons op_b rfl co4 opf_nil))))))).map
    (fun p => (⟨p.1, p.2.1, p.2.2.1, p.2.2.2.1, p.2.2.2.2.1, p.2.2.2.2.2.1⟩ : Frm)) (fun _ => rfl) (fun _ h => ⟨h.1, h.2.1, h.2.2.1⟩) (fun _ _ _ => trivial)
theorem op_frms : Opn enc Tryd.prog w 58 slV (FrmsOk w) (fun _ _ => True) :=
  (opn_slice Tryd.underlying58 co65 (by decide) (by rw [bo65]; decide) (fun _ => rfl) op_frm).map (fun s => s) (fun _ => rfl)
    (fun s h => ⟨h.1, Nat.le_trans h.2.1 reach_len, fun f hf => ⟨Nat.le_trans (h.2.2 f hf).1 reach_len, Nat.le_trans (h.2.2 f hf).2.1 reach_len, Nat.le_trans (h.2.2 f hf).2.2 reach_len⟩⟩) (fun _ _ _ => trivial)
theorem op_flt : Opn enc Tryd.prog w 60 Flt.enc (FltOk w) (fun _ _ => True) :=
  (opn_struct Tryd.underlying60 co60 (opf_cons op_s rfl co9 (opf_cons op_s rfl co9 (opf_cons op_frms rfl co58 opf_nil)))).map
    (fun p => (⟨p.1, p.2.1, p.2.2.1⟩ : Flt)) (fun _ => rfl) (fun _ h => ⟨Nat.le_trans h.1 reach_len, Nat.le_trans h.2.1 reach_len, h.2.2.1⟩) (fun _ _ _ => trivial)
theorem op_flts : Opn enc Tryd.prog w 31 slV (FltsOk w) (fun _ _ => True) :=
  (opn_slice Tryd.underlying31 co60 (by decide) (by rw [bo60]; decide) (fun _ => rfl) op_flt).map (fun s => s) (fun _ => rfl)
    (fun s h => ⟨h.1, Nat.le_trans h.2.1 reach_len, h.2.2⟩) (fun _ _ _ => trivial)
theorem op_tag : Opn enc Tryd.prog w 87 STag.enc (fun t => ShortS t.n ∧ ShortS t.v) (fun _ _ => True) :=
  (opn_struct Tryd.underlying87 co87 (opf_cons op_s rfl co9 (opf_cons op_s rfl co9 opf_nil))).map
    (fun p => (⟨p.1, p.2.1⟩ : STag)) (fun _ => rfl) (fun _ h => ⟨h.1, h.2.1⟩) (fun _ _ _ => trivial)
theorem op_tags : Opn enc Tryd.prog w 32 slV (TagsOk w) (fun _ _ => True) :=
  (opn_slice Tryd.underlying32 co87 (by decide) (by rw [bo87]; decide) (fun _ => rfl) op_tag).map (fun s => s) (fun _ => rfl)
    (fun s h => ⟨h.1, Nat.le_trans h.2.1 reach_len, fun t ht => ⟨Nat.le_trans (h.2.2 t ht).1 reach_len, Nat.le_trans (h.2.2 t ht).2 reach_len⟩⟩) (fun _ _ _ => trivial)
theorem op_crumb : Opn enc Tryd.prog w 89 SCrumb.enc (fun c => IntOk c.at_ ∧ ShortS c.k ∧ ShortS c.t) (fun _ _ => True) :=
  (opn_struct Tryd.underlying89 co89 (opf_cons op_i rfl co3 (opf_cons op_s rfl co9 (opf_cons op_s rfl co9 opf_nil)))).map
    (fun p => (⟨p.1, p.2.1, p.2.2.1⟩ : SCrumb)) (fun _ => rfl) (fun _ h => ⟨h.1, h.2.1, h.2.2.1⟩) (fun _ _ _ => trivial)
theorem op_crumbs : Opn enc Tryd.prog w 33 slV (CrumbsOk w) (fun _ _ => True) :=
  (opn_slice Tryd.underlying33 co89 (by decide) (by rw [bo89]; decide) (fun _ => rfl) op_crumb).map (fun s => s) (fun _ => rfl)
    (fun s h => ⟨h.1, Nat.le_trans h.2.1 reach_len, fun t ht => ⟨Nat.le_trans (h.2.2 t ht).2.1 reach_len, Nat.le_trans (h.2.2 t ht).2.2 reach_len⟩⟩) (fun _ _ _ => trivial)
theorem op_evt : Opn enc Tryd.prog w 35 Evt.enc (Evt.Ok w) (fun _ _ => True) :=
  (opn_struct Tryd.underlying35 co35 (opf_cons op_s rfl co9 (opf_cons op_i rfl co3 (opf_cons op_i rfl co3 (opf_cons op_flts rfl co31 (opf_cons op_tags rfl co32 (opf_cons op_crumbs rfl co33 (opf_cons op_s rfl co9 (opf_cons op_s rfl co9 (opf_cons op_i rfl co3 opf_nil)))))))))).map
    (fun p => (⟨p.1, p.2.1, p.2.2.1, p.2.2.2.1, p.2.2.2.2.1, p.2.2.2.2.2.1, p.2.2.2.2.2.2.1, p.2.2.2.2.2.2.2.1, p.2.2.2.2.2.2.2.2.1⟩ : Evt)) (fun _ => rfl)
    (fun p h => by
      obtain ⟨h1, _, _, h4, h5, h6, h7, h8, _⟩ := h
      exact ⟨h4, h5, h6, Nat.le_trans h1 reach_len, Nat.le_trans h7 reach_len, Nat.le_trans h8 reach_len⟩) (fun _ _ _ => trivial)
end
end Go.Proofs.YtfmbgaaonfgenaaDoor
end
section
namespace Go.Proofs.YtfmbgaaonfgenaaDoor
set_option linter.unusedSimpArgs false
set_option linter.unusedVariables false
set_option maxRecDepth 20000
open Go.RowKit Go.Eng
inductive SC where
  | mk (op : Int) (A : Option Addr) (q c : Nat) (kids : List SC) (lo hi : Int) (name text : List UInt8)
def SC.op : SC → Int | .mk op _ _ _ _ _ _ _ _ => op
def SC.ad : SC → Option Addr | .mk _ A _ _ _ _ _ _ _ => A
def SC.q : SC → Nat | .mk _ _ q _ _ _ _ _ _ => q
def SC.c : SC → Nat | .mk _ _ _ c _ _ _ _ _ => c
def SC.lo : SC → Int | .mk _ _ _ _ _ lo _ _ _ => lo
def SC.hi : SC → Int | .mk _ _ _ _ _ _ hi _ _ => hi
def SC.nm : SC → List UInt8 | .mk _ _ _ _ _ _ _ n _ => n
def SC.tx : SC → List UInt8 | .mk _ _ _ _ _ _ _ _ t => t
def SC.enc (x : SC) : List Value := [.int .i64 x.op, .slice x.ad x.q x.c, .int .i64 x.lo, .int .i64 x.hi, str x.nm, str x.tx]
def SC.val (c : SC) : Value := .agg c.enc.toArray
def SC.kids : SC → List SC | .mk _ _ _ _ k _ _ _ _ => k
mutual
def SC.says : SC → PC
  | .mk op _ _ _ kids lo hi n t => .mk op (SC.saysL kids) lo hi n t
def SC.saysL : List SC → List PC
  | [] => []
  | k :: r => k.says :: SC.saysL r
end
theorem saysL_map : ∀ l : List SC, SC.saysL l = l.map SC.says
  | [] => rfl
  | k :: r => by rw [SC.saysL, saysL_map r]; rfl
theorem SC.says_mk {op lo hi : Int} {A : Option Addr} {q c : Nat} {kids : List SC} {n t : List UInt8} : (SC.mk op A q c kids lo hi n t).says = .mk op (kids.map SC.says) lo hi n t := by rw [SC.says, saysL_map]
theorem SC.says_kids (c : SC) : c.says.kids = c.kids.map SC.says := by cases c; rw [SC.says_mk]; rfl
theorem SC.enc_len (c : SC) : c.enc.length = 6 := rfl
inductive SC.Ok (w : World) : SC → Prop where
  | mk {op lo hi : Int} {A : Option Addr} {q c : Nat} {kids : List SC} {n t : List UInt8} (h : Sl.Ok SC.enc 6 w ⟨A, q, c, kids⟩) (hq : q ≤ 4611686018427387904) (hb : q * 80 ≤ 140737488355328) (hn : n.length ≤ 4611686018427387904) (ht : t.length ≤ 4611686018427387904) (hk : ∀ k ∈ kids, SC.Ok w k) : SC.Ok w (.mk op A q c kids lo hi n t)
theorem SC.Ok.kid {w : World} {c k : SC} (h : c.Ok w) (hk : k ∈ c.kids) : k.Ok w := by
  cases h with
  | mk _ _ _ _ _ h => exact h k hk
/-- how deep it is -/
abbrev SC.dep (c : SC) : Nat := depP c.says
theorem SC.dep_kid {c k : SC} (hk : k ∈ c.kids) : k.dep < c.dep := depP_kid (by rw [SC.says_kids]; exact List.mem_map_of_mem hk)
theorem SC.ind {Q : SC → Prop} (h : ∀ c, (∀ k ∈ c.kids, Q k) → Q c) (c : SC) : Q c := by
  have key : ∀ (n : Nat) (c : SC), c.dep ≤ n → Q c := by
    intro n
    induction n with
    | zero => intro c hc; cases c; simp [SC.dep, SC.says, depP] at hc
    | succ n ih => intro c hc; exact h c fun k hk => ih k (by have := SC.dep_kid hk; omega)
  exact key _ c (Nat.le_refl _)
theorem SC.Ok.lift {w w' : World} {c : SC} (hb : Below w.heap.size w w') : c.Ok w → c.Ok w' := by
  refine SC.ind (Q := fun c => c.Ok w → c.Ok w') (fun c ih h => ?_) c
  cases h with
  | mk h1 h2 h6 h3 h4 h5 => exact .mk (h1.below hb) h2 h6 h3 h4 fun k hk => ih k hk (h5 k hk)
section
variable {H : Type} {enc : TypeId × Value → H} {w : World}
def condR (c : SC) (d : DataW H) : Prop := cntP c.says ≤ Rows.uptoBulk d
theorem bulk_all : ∀ (l : List SC) (es : List (DataW H)), es.length = l.length → (∀ (i : Nat) (a : SC) (x : DataW H), l[i]? = some a → es[i]? = some x → condR a x) → cntL (SC.saysL l) ≤ Rows.uptoBulkAll es
  | [], _, _, _ => by simp [SC.saysL, cntL]
  | a :: r, [], h, _ => by simp at h
  | a :: r, x :: xs, hl, h => by
    rw [SC.saysL, cntL, Rows.uptoBulkAll]
    have h1 := h 0 a x rfl rfl
    have h2 := bulk_all r xs (by simpa using hl) fun i b y hb hy => h (i + 1) b y (by simpa using hb) (by simpa using hy)
    have h1 : cntP a.says ≤ Rows.uptoBulk x := h1
    omega
theorem bulk_slice {s : Sl SC} {d : DataW H} (h : SlRel condR s d) : cntL (SC.saysL s.l) ≤ Rows.uptoBulk d := by
  obtain ⟨es, hd, hl, he⟩ := h
  have h1 := bulk_all s.l es hl he
  rcases hd with ⟨rfl, rfl⟩ | ⟨sp, rfl⟩
  · rw [Rows.uptoBulkAll] at h1; omega
  · rw [Rows.uptoBulk]; omega
theorem op_condN : ∀ N, OpnN N enc Tryd.prog w 24 SC.enc (SC.Ok w) (condR (H := H)) := by
  intro N
  induction N using Nat.strongRecOn with
  | _ N ih =>
    cases N with
    | zero => exact OpnN.zero
    | succ N =>
      have hk : OpnN N enc Tryd.prog w 22 (fun s : Sl SC => [.slice s.A s.q s.c]) (fun s => s.Ok SC.enc 6 w ∧ s.q ≤ reachBytes ∧ s.q * Tryd.prog.bytesOf 24 ≤ reachBytes ∧ ∀ a ∈ s.l, a.Ok w) (SlRel (condR (H := H))) := by
        cases N with
        | zero => exact OpnN.zero
        | succ M => exact opnN_slice Tryd.underlying22 co24 (by decide) (by rw [bo24]; decide) SC.enc_len (ih M (by omega))
      refine (opnN_struct Tryd.underlying24 co24 (opfN_cons op_i.n rfl co3 (opfN_cons hk rfl co22 (opfN_cons op_i.n rfl co3 (opfN_cons op_i.n rfl co3 (opfN_cons op_s.n rfl co9 (opfN_cons op_s.n rfl co9 opfN_nil))))))).map
        (fun p => SC.mk p.1 p.2.1.A p.2.1.q p.2.1.c p.2.1.l p.2.2.1 p.2.2.2.1 p.2.2.2.2.1 p.2.2.2.2.2.1) (fun _ => rfl) ?_ ?_
      · rintro p ⟨_, ⟨h2, h3, h4, h5⟩, _, _, h6, h7, _⟩
        rw [bo24] at h4
        exact .mk h2 (Nat.le_trans h3 reach_len) (Nat.le_trans h4 (by decide)) (Nat.le_trans h6 reach_len) (Nat.le_trans h7 reach_len) h5
      · rintro p d _ ⟨ds, rfl, d1, r1, rfl, _, d2, r2, rfl, h2, _⟩
        show cntP (SC.mk _ _ _ _ _ _ _ _ _).says ≤ _
        rw [SC.says, cntP, Rows.uptoBulk, Rows.uptoBulkAll, Rows.uptoBulkAll]
        have := bulk_slice h2
        omega
theorem op_cond : Opn enc Tryd.prog w 24 SC.enc (SC.Ok w) (condR (H := H)) := OpnN.all op_condN
end
end Go.Proofs.YtfmbgaaonfgenaaDoor
end
