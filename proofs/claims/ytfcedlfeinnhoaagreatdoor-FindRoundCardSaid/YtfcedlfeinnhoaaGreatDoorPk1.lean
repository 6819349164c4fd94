/- Part 1, merged by a program. Digits and numbers: plain lists. No program in sight. Conditions as trees: how deep, how many, whether they are right, equal, plain, and for what they hold. Plain trees; no program in sight. What is made plain is right where the condition was, is plain, is no greater, and holds for the same. Plain trees; no program in sight. A condition as a text, and the reader of it: plain lists and trees. What is written of a right condition is read back. No program in sight. What is written of a right condition is read back: plain trees. No program in sight. Patterns with stars: what they match, the search that goes back to the last star, and the table of all beginnings. Plain lists; no program in sight. Words, names and ids: what the program and the reference say of them. No condition beyond lengths that a machine can hold. Frames: CheckFrame, checkFrames and what the reference has in their places. Conditions: lengths that a machine can hold. Events in plain lists: faults, tags, crumbs, and their faults' codes. No program in sight. Events opened: from the form's reading to 'Evt.Ok'. No condition. Conditions as they lie in memory, and conditions among the arguments opened. No condition. Events are checked: the program's Check and the reference's EventFault. Conditions: those of each theorem. Conditions: too deep, too many, and whether each is right. Conditions: those of each theorem. Conditions: how many within one another, and the text of one. Conditions: those of each theorem. Conditions: whether each is right, and CheckCond. Conditions: those of each theorem. find.Fits: the greedy search. Condition: the lengths are bounded. Bytes of names and values, and bare values: find.isNameByte, more, isBare, bare, ranges; slices.Index of strings. Conditions: those of each theorem. The reader of conditions: fail, is, take, begins, name, number. Conditions: those of each theorem. The reader of conditions: number. Conditions: those of each theorem. The reader of conditions: quoted, value. Conditions: those of each theorem. Digits as numbers: strconv.Atoi at what the reader hands it, strconv.Itoa. Conditions: those of each theorem. -/
import Derived.Test.YtfcedlfeinnhoaaGreatDoorZip
import Derived.Test.YtfcedlfeinnhoaaGreatDoorOpen
import Derived.Lib.ItoaLen
import Derived.Test.YtfcedlfeinnhoaaGreatDoorLem
import Derived.Test.YtfcedlfeinnhoaaGreatDoorShelf
import Derived.Shelf.Strings.SlTrimAscii
import Derived.Test.YtfcedlfeinnhoaaGreatDoorApp
import Derived.Test.YtfcedlfeinnhoaaGreatDoorOpnN
import Derived.Test.YtfcedlfeinnhoaaGreatDoorRows
import Derived.Test.YtfcedlfeinnhoaaGreatDoorOpsB
import Derived.Test.YtfcedlfeinnhoaaGreatDoorTail
import Derived.Test.YtfcedlfeinnhoaaGreatDoorByt
import Derived.Test.YtfcedlfeinnhoaaGreatDoorClr
import Derived.Test.YtfcedlfeinnhoaaGreatDoorMany
import Derived.Test.YtfcedlfeinnhoaaGreatDoorIfc
import Derived.Test.YtfcedlfeinnhoaaGreatDoorSit
section
namespace Go.Proofs.YtfcedlfeinnhoaaGreatDoor
set_option linter.unusedSimpArgs false
set_option linter.unusedVariables false
set_option maxRecDepth 20000
open Go.RowKit Go.Eng
abbrev digB : List UInt8 := [48, 49, 50, 51, 52, 53, 54, 55, 56, 57]
theorem digB_iff {c : UInt8} (h : digB.contains c = true) : 48 ≤ c.toNat ∧ c.toNat ≤ 57 := by
  have h : c ∈ digB := by simpa using h
  simp only [digB, List.mem_cons, List.not_mem_nil, or_false] at h
  rcases h with rfl | rfl | rfl | rfl | rfl | rfl | rfl | rfl | rfl | rfl <;> decide
def valD (s : List UInt8) : Nat := s.foldl (fun n c => n * 10 + (c.toNat - 48)) 0
theorem valD_snoc (l : List UInt8) (c : UInt8) : valD (l ++ [c]) = valD l * 10 + (c.toNat - 48) := by rw [valD, List.foldl_append]; rfl
theorem ofNat_dig {n : Nat} (h : n < 10) : (UInt8.ofNat (48 + n)).toNat = 48 + n := by simp; omega
theorem val_dec (u : Nat) : valD (Lib.decDigits u) = u ∧ Lib.decDigits u ≠ [] ∧ (∀ c ∈ Lib.decDigits u, digB.contains c = true) ∧ (1 ≤ u → ((Lib.decDigits u).getD 0 0).toNat ≠ 48) := by
  induction u using Nat.strongRecOn with
  | _ u ih =>
    have hd : ∀ n : Nat, n < 10 → digB.contains (UInt8.ofNat (48 + n)) = true := by decide
    by_cases h : u < 10
    · rw [Lib.decDigits_one h]
      refine ⟨?_, by simp, fun c hc => ?_, fun h1 => ?_⟩
      · show 0 * 10 + ((UInt8.ofNat (48 + u)).toNat - 48) = u
        rw [ofNat_dig h]; omega
      · rw [List.mem_singleton.1 hc]; exact hd u h
      · show (UInt8.ofNat (48 + u)).toNat ≠ 48
        rw [ofNat_dig h]; omega
    · obtain ⟨i1, i2, i3, i4⟩ := ih (u / 10) (by omega)
      rw [Lib.decDigits, dif_neg h]
      refine ⟨?_, by simp, fun c hc => ?_, fun _ => ?_⟩
      · rw [valD_snoc, i1, ofNat_dig (by omega)]; omega
      · rcases List.mem_append.1 hc with hc | hc
        · exact i3 c hc
        · rw [List.mem_singleton.1 hc]; exact hd _ (by omega)
      · have := i4 (by omega)
        cases hq : Lib.decDigits (u / 10) with
        | nil => exact absurd hq i2
        | cons x r => rw [hq] at this; exact this
theorem dec_len : ∀ (k u : Nat), u < 10 ^ (k + 1) → (Lib.decDigits u).length ≤ k + 1
  | 0, u, h => by rw [Lib.decDigits_one (by omega)]; exact Nat.le_refl _
  | k + 1, u, h => by
    by_cases hu : u < 10
    · rw [Lib.decDigits_one hu]; simp
    · rw [Lib.decDigits, dif_neg hu, List.length_append]
      have := dec_len k (u / 10) (by rw [Nat.div_lt_iff_lt_mul (by decide)]; rw [Nat.pow_succ] at h; exact h)
      simp only [List.length_cons, List.length_nil]; omega
theorem itoa_nat {n : Int} (h : 0 ≤ n) : Lib.itoa n = Lib.decDigits n.toNat := by
  obtain ⟨u, rfl⟩ : ∃ u : Nat, n = u := ⟨n.toNat, by omega⟩
  rw [Lib.itoa_nonneg, Int.toNat_natCast]
end Go.Proofs.YtfcedlfeinnhoaaGreatDoor
end
section
namespace Go.Proofs.YtfcedlfeinnhoaaGreatDoor
set_option linter.unusedSimpArgs false
set_option linter.unusedVariables false
set_option maxRecDepth 20000
open Go.RowKit Go.Eng
inductive PC where
  | mk (op : Int) (kids : List PC) (lo hi : Int) (name text : List UInt8)
def PC.op : PC → Int | .mk op _ _ _ _ _ => op
def PC.kids : PC → List PC | .mk _ k _ _ _ _ => k
def PC.lo : PC → Int | .mk _ _ lo _ _ _ => lo
def PC.hi : PC → Int | .mk _ _ _ hi _ _ => hi
def PC.name : PC → List UInt8 | .mk _ _ _ _ n _ => n
def PC.text : PC → List UInt8 | .mk _ _ _ _ _ t => t
mutual
def cntP : PC → Nat
  | .mk _ kids _ _ _ _ => cntL kids + 1
def cntL : List PC → Nat
  | [] => 0
  | k :: r => cntP k + cntL r
end
theorem cntP_pos (c : PC) : 1 ≤ cntP c := by cases c; simp [cntP]
mutual
def depP : PC → Nat
  | .mk _ kids _ _ _ _ => depL kids + 1
def depL : List PC → Nat
  | [] => 0
  | k :: r => max (depP k) (depL r)
end
theorem depL_mem : ∀ {l : List PC} {k : PC}, k ∈ l → depP k ≤ depL l
  | a :: r, k, h => by
    rw [depL]
    rcases List.mem_cons.1 h with rfl | h
    · omega
    · have := depL_mem h; omega
theorem depL_le {n : Nat} : ∀ {l : List PC}, (∀ k ∈ l, depP k ≤ n) → depL l ≤ n
  | [], _ => Nat.zero_le _
  | a :: r, h => by
    rw [depL]
    have h1 := h a List.mem_cons_self
    have h2 := depL_le fun k hk => h k (List.mem_cons_of_mem _ hk)
    omega
theorem depP_kid {c k : PC} (h : k ∈ c.kids) : depP k < depP c := by
  cases c
  have := depL_mem h
  rw [depP]
  exact Nat.lt_succ_of_le this
/-- an induction over kids -/
theorem PC.ind {Q : PC → Prop} (h : ∀ c, (∀ k ∈ c.kids, Q k) → Q c) (c : PC) : Q c := by
  have key : ∀ (n : Nat) (c : PC), depP c ≤ n → Q c := by
    intro n
    induction n with
    | zero => intro c hc; cases c; simp [depP] at hc
    | succ n ih => intro c hc; exact h c fun k hk => ih k (by have := depP_kid hk; omega)
  exact key _ c (Nat.le_refl _)
/-- more than m within one another -/
def deepP : Nat → PC → Bool
  | 0, _ => true
  | m + 1, c => c.kids.any (deepP m)
theorem deepP_iff : ∀ (m : Nat) (c : PC), deepP m c = true ↔ m < depP c
  | 0, c => by cases c; simp [deepP, depP]
  | m + 1, .mk op kids lo hi n t => by
    rw [deepP, List.any_eq_true, depP]
    show (∃ x, x ∈ kids ∧ deepP m x = true) ↔ _
    constructor
    · rintro ⟨x, hx, h⟩
      have := (deepP_iff m x).1 h
      have := depL_mem hx
      omega
    · intro h
      refine Classical.byContradiction fun hn => ?_
      have : depL kids ≤ m := depL_le fun k hk => by
        refine Classical.byContradiction fun hk2 => hn ⟨k, hk, (deepP_iff m k).2 (by omega)⟩
      omega
mutual
def sizeP : PC → Int → Int
  | .mk _ kids _ _ _ _, most => sizeL kids 1 most
def sizeL : List PC → Int → Int → Int
  | [], n, _ => n
  | k :: r, n, most => if most < n then n else sizeL r (n + sizeP k (most - n)) most
end
mutual
theorem sizeP_eq : ∀ (c : PC) (most : Int), 0 ≤ most → sizeP c most = min (cntP c : Int) (most + 1)
  | .mk _ kids _ _ _ _, most, h => by
    rw [sizeP, sizeL_eq kids 1 most (by omega) (by omega), cntP]
    omega
theorem sizeL_eq : ∀ (l : List PC) (n most : Int), 1 ≤ n → n ≤ most + 1 → sizeL l n most = min (n + cntL l) (most + 1)
  | [], n, most, h1, h2 => by rw [sizeL, cntL]; omega
  | k :: r, n, most, h1, h2 => by
    rw [sizeL, cntL]
    have := cntP_pos k
    split
    · omega
    · rw [sizeP_eq k (most - n) (by omega), sizeL_eq r _ most (by omega) (by omega)]
      omega
end
def inB (n lo hi : Int) : Bool := !(decide (n < lo) || decide (hi < n))
def grpB (op : Int) : Bool := decide (op ≤ 3)
def rngB (op : Int) : Bool := decide (4 ≤ op) && decide (op ≤ 6)
def nmdB (op : Int) : Bool := decide (op = 7) || decide (op = 8)
def wrdB (op : Int) : Bool := decide (op = 7) || decide (9 ≤ op)
def loR (op : Int) : Int := if op = 5 then 0 else 1
def hiR (op : Int) : Int := if op = 5 then 3155759999 else if op = 6 then 1000000 else 5
/-! ### Equal -/
mutual
def sameP : PC → PC → Bool
  | .mk op kids lo hi n t, .mk op' kids' lo' hi' n' t' => decide (op = op') && (decide (lo = lo') && (decide (hi = hi') && (decide (n = n') && (decide (t = t') && sameL kids kids'))))
def sameL : List PC → List PC → Bool
  | [], [] => true
  | a :: r, b :: s => sameP a b && sameL r s
  | [], _ :: _ => false
  | _ :: _, [] => false
end
mutual
theorem sameP_refl : ∀ c : PC, sameP c c = true
  | .mk op kids lo hi n t => by simp [sameP, sameL_refl kids]
theorem sameL_refl : ∀ l : List PC, sameL l l = true
  | [] => rfl
  | a :: r => by rw [sameL, sameP_refl a, sameL_refl r]; rfl
end
/-! ### Plain -/
def joinB (op : Int) (k : PC) : Bool := (decide (op = 1) || decide (op = 2)) && decide (k.op = op)
def addK (op : Int) (out : List PC) (k : PC) : List PC := if joinB op k = true then out ++ k.kids else out ++ [k]
def pc0 : PC := .mk 0 [] 0 0 [] []
def finP (op : Int) (kids : List PC) (lo hi : Int) (n t : List UInt8) : PC :=
  if op = 3 ∧ (kids.getD 0 pc0).op = 3 then (kids.getD 0 pc0).kids.getD 0 pc0 else .mk op kids lo hi n t
mutual
def plainP : PC → PC
  | .mk op kids lo hi n t => finP op (plainL op kids []) lo hi n t
def plainL (op : Int) : List PC → List PC → List PC
  | [], out => out
  | k :: r, out => plainL op r (addK op out (plainP k))
end
/-! ### Holds -/
mutual
def holdsP (lf : PC → Bool) : PC → Bool
  | .mk op kids lo hi n t => if op = 1 then holdsA lf kids else if op = 2 then holdsO lf kids else if op = 3 then !holdsF lf kids else lf (.mk op [] lo hi n t)
def holdsA (lf : PC → Bool) : List PC → Bool
  | [] => true
  | k :: r => holdsP lf k && holdsA lf r
def holdsO (lf : PC → Bool) : List PC → Bool
  | [] => false
  | k :: r => holdsP lf k || holdsO lf r
def holdsF (lf : PC → Bool) : List PC → Bool
  | [] => false
  | k :: _ => holdsP lf k
end
theorem holdsA_all (lf : PC → Bool) : ∀ l : List PC, holdsA lf l = l.all (holdsP lf)
  | [] => rfl
  | k :: r => by rw [holdsA, holdsA_all lf r, List.all_cons]
theorem holdsO_any (lf : PC → Bool) : ∀ l : List PC, holdsO lf l = l.any (holdsP lf)
  | [] => rfl
  | k :: r => by rw [holdsO, holdsO_any lf r, List.any_cons]
/-! ### Right -/
/-- what a condition without its kids is asked: 'nk' is how many kids it has -/
def chdNo (txt : List UInt8 → Int) (nm : List UInt8 → Bool) (op : Int) (nk : Nat) (lo hi : Int) (n t : List UInt8) : Int :=
  if inB op 1 14 = false then 10
  else if (decide (0 < nk) && !grpB op || ((!decide (lo = 0) || !decide (hi = 0)) && !rngB op) || (!decide (n = []) && !nmdB op) || (!decide (t = []) && !wrdB op)) = true then 1
  else if ((decide (op = 1) || decide (op = 2)) && decide (nk < 2) || decide (op = 3) && !decide (nk = 1)) = true then 1
  else if (rngB op && (!inB lo (loR op) (hiR op) || !inB hi (loR op) (hiR op))) = true then 2
  else if (rngB op && decide (hi < lo)) = true then 5
  else if (nmdB op && !nm n) = true then 3
  else if wrdB op = true then txt t else 0
section
variable (hd : Int → Nat → Int → Int → List UInt8 → List UInt8 → Int)
mutual
def chkP : PC → Int
  | .mk op kids lo hi n t => if hd op kids.length lo hi n t ≠ 0 then hd op kids.length lo hi n t else chkL kids
def chkL : List PC → Int
  | [] => 0
  | k :: r => if chkP k ≠ 0 then chkP k else chkL r
end
end
end Go.Proofs.YtfcedlfeinnhoaaGreatDoor
end
section
namespace Go.Proofs.YtfcedlfeinnhoaaGreatDoor
set_option linter.unusedSimpArgs false
set_option linter.unusedVariables false
set_option maxRecDepth 20000
open Go.RowKit Go.Eng
/-! ### Right -/
def condN (txt : List UInt8 → Int) (nm : List UInt8 → Bool) (c : PC) : Int := if deepP 20 c = true then 13 else if (100 : Int) < sizeP c 100 then 4 else chkP (chdNo txt nm) c
theorem chkL_zero {hd : Int → Nat → Int → Int → List UInt8 → List UInt8 → Int} : ∀ {l : List PC}, chkL hd l = 0 ↔ ∀ k ∈ l, chkP hd k = 0
  | [] => by simp [chkL]
  | a :: r => by
    rw [chkL]
    by_cases h : chkP hd a = 0
    · rw [if_neg (by simp [h]), chkL_zero]
      exact ⟨fun h2 k hk => by
        rcases List.mem_cons.1 hk with rfl | hk
        · exact h
        · exact h2 k hk, fun h2 k hk => h2 k (List.mem_cons_of_mem _ hk)⟩
    · rw [if_pos h]
      exact ⟨fun h2 => absurd h2 h, fun h2 => h2 a List.mem_cons_self⟩
theorem chkP_zero {hd : Int → Nat → Int → Int → List UInt8 → List UInt8 → Int} {op lo hi : Int} {kids : List PC} {n t : List UInt8} : chkP hd (.mk op kids lo hi n t) = 0 ↔ hd op kids.length lo hi n t = 0 ∧ ∀ k ∈ kids, chkP hd k = 0 := by
  rw [chkP]
  by_cases h : hd op kids.length lo hi n t = 0
  · rw [if_neg (by simp [h]), chkL_zero]; simp [h]
  · rw [if_pos h]; simp [h]
section
variable {txt : List UInt8 → Int} {nm : List UInt8 → Bool} {op lo hi : Int} {nk nk' : Nat} {n t : List UInt8}
theorem head_ar (h : chdNo txt nm op nk lo hi n t = 0) : (1 ≤ op ∧ op ≤ 14) ∧ (0 < nk → op ≤ 3) ∧ (op = 1 ∨ op = 2 → 2 ≤ nk) ∧ (op = 3 → nk = 1) := by
  unfold chdNo at h
  split at h
  · cases h
  rename_i h1
  split at h
  · cases h
  rename_i h2
  split at h
  · cases h
  rename_i h3
  simp only [inB, Bool.not_eq_false', Bool.or_eq_true, Bool.and_eq_true, decide_eq_true_eq, not_or, Bool.not_eq_true', Bool.or_eq_false_iff, decide_eq_false_iff_not, grpB, not_and, Bool.not_eq_false, Bool.not_eq_true, Classical.not_not] at h1 h2 h3
  refine ⟨by omega, fun hk => ?_, fun ho => ?_, fun ho => ?_⟩
  · have := h2.1.1.1 hk; omega
  · have := h3.1 ho; omega
  · exact h3.2 ho
end
/-! ### Plain -/
theorem chk_kid {hd : Int → Nat → Int → Int → List UInt8 → List UInt8 → Int} {c k : PC} (h : chkP hd c = 0) (hk : k ∈ c.kids) : chkP hd k = 0 := by
  cases c
  exact (chkP_zero.1 h).2 k hk
theorem condN_zero {txt : List UInt8 → Int} {nm : List UInt8 → Bool} {c : PC} : condN txt nm c = 0 ↔ depP c ≤ 20 ∧ cntP c ≤ 100 ∧ chkP (chdNo txt nm) c = 0 := by
  unfold condN
  have h1 := deepP_iff 20 c
  have h2 := sizeP_eq c 100 (by decide)
  by_cases hd : deepP 20 c = true
  · rw [if_pos hd]
    have := h1.1 hd
    exact ⟨fun h => absurd h (by decide), fun h => by omega⟩
  · rw [if_neg hd]
    have h3 : depP c ≤ 20 := by
      refine Classical.byContradiction fun h => hd (h1.2 (by omega))
    by_cases hs : (100 : Int) < sizeP c 100
    · rw [if_pos hs]
      exact ⟨fun h => absurd h (by decide), fun h => by omega⟩
    · rw [if_neg hs]
      exact ⟨fun h => ⟨h3, by omega, h⟩, fun h => h.2.2⟩
end Go.Proofs.YtfcedlfeinnhoaaGreatDoor
end
section
namespace Go.Proofs.YtfcedlfeinnhoaaGreatDoor
set_option linter.unusedSimpArgs false
set_option linter.unusedVariables false
set_option maxRecDepth 20000
open Go.RowKit Go.Eng
/-! ### Bytes -/
def qDig (c : UInt8) : Bool := decide ((48 : Int) ≤ (c.toNat : Int)) && decide ((c.toNat : Int) ≤ 57)
def qLet (c : UInt8) : Bool := decide ((97 : Int) ≤ (c.toNat : Int)) && decide ((c.toNat : Int) ≤ 122)
/-- a byte of a name -/
def qNam (c : UInt8) : Bool := qLet c || qDig c || decide (c.toNat = 45) || decide (c.toNat = 46) || decide (c.toNat = 95)
abbrev qSig : List UInt8 := [46, 45, 95, 47, 42, 64, 43, 33]
/-- a byte of a value without quotation marks -/
def qBar (c : UInt8) : Bool := qDig c || (decide ((97 : Int) ≤ (c.toNat : Int)) && decide ((c.toNat : Int) ≤ 122)) || (decide ((65 : Int) ≤ (c.toNat : Int)) && decide ((c.toNat : Int) ≤ 90)) || qSig.contains c
abbrev kOr : List UInt8 := [111, 114]
abbrev kOrS : List UInt8 := [111, 114, 32]
def bareQ (s : List UInt8) : Bool := !decide (s = []) && !decide (s.getD 0 0 = 45) && !decide (s = kOr) && s.all qBar
/-! ### The text -/
def escC (c : UInt8) : List UInt8 := if c = 34 then [92, 34] else if c = 92 then [92, 92] else [c]
def escQ (s : List UInt8) : List UInt8 := s.flatMap escC
def valT (s : List UInt8) : List UInt8 := if bareQ s = true then s else 34 :: (escQ s ++ [34])
/-- the words of kinds, by their numbers -/
def wordQ : List (List UInt8) := [[], [], [], [], [108, 101, 118, 101, 108], [97, 116], [119, 101, 105, 103, 104, 116], [], [104, 97, 115], [114, 101, 108, 101, 97, 115, 101], [117, 115, 101, 114], [107, 105, 110, 100], [115, 97, 121, 115], [102, 117, 110, 99], [102, 105, 108, 101]]
abbrev wdQ (op : Int) : List UInt8 := wordQ.getD op.toNat []
/-- what is written with no kids -/
def leafT (op lo hi : Int) (n t : List UInt8) : List UInt8 :=
  if op = 7 then n ++ 61 :: valT t else if op = 8 then [104, 97, 115, 58] ++ n
  else if rngB op = true then wdQ op ++ 58 :: (Lib.itoa lo ++ if op ≠ 4 ∨ lo ≠ hi then [46, 46] ++ Lib.itoa hi else []) else wdQ op ++ 58 :: valT t
def bracB (op k : Int) : Bool := decide (k = 1) || decide (k = 2) || (decide (k = 3) && decide (op = 3))
/-- lists with a list between -/
def jnQ (sep : List UInt8) : List (List UInt8) → List UInt8
  | [] => []
  | [a] => a
  | a :: b :: r => a ++ sep ++ jnQ sep (b :: r)
mutual
def textP : PC → List UInt8
  | .mk op kids lo hi n t => if op = 1 then jnQ [32] (textL op kids) else if op = 2 then jnQ [32, 111, 114, 32] (textL op kids) else if op = 3 then 45 :: (textL op kids).getD 0 [] else leafT op lo hi n t
def textL (op : Int) : List PC → List (List UInt8)
  | [] => []
  | k :: r => (if bracB op k.op = true then 40 :: (textP k ++ [41]) else textP k) :: textL op r
end
def kidT (op : Int) (k : PC) : List UInt8 := if bracB op k.op = true then 40 :: (textP k ++ [41]) else textP k
theorem textL_map (op : Int) : ∀ l : List PC, textL op l = l.map (kidT op)
  | [] => rfl
  | k :: r => by rw [textL, textL_map op r]; rfl
/-! ### The reader -/
structure QS where
  p : Nat
  w : Option Nat
def failQ (r : QS) (k : Nat) : QS := ⟨r.p, some (r.w.getD k)⟩
def isQ (s : List UInt8) (r : QS) (c : UInt8) : Bool := decide (r.w = none) && decide (r.p < s.length) && decide (s.getD r.p 0 = c)
def takeQ (s : List UInt8) : List UInt8 → QS → QS
  | [], r => r
  | c :: t, r => if isQ s r c = true then takeQ s t ⟨r.p + 1, r.w⟩ else failQ r r.p
def begQ (s : List UInt8) (r : QS) (t : List UInt8) : Bool := decide (r.w = none) && decide (t.length ≤ s.length - r.p) && decide ((s.drop r.p).take t.length = t)
/-- how many bytes of a name come, k being there -/
def nmLen : List UInt8 → Nat → Nat
  | [], _ => 0
  | c :: t, k => if qNam c = true ∧ (k = 0 → qLet c = true) ∧ k ≠ 40 then nmLen t (k + 1) + 1 else 0
def nameQ (s : List UInt8) (r : QS) : QS :=
  if r.w ≠ none then r else
    let n := nmLen (s.drop r.p) 0
    ⟨r.p + n, if n = 0 ∨ (n = 40 ∧ r.p + n < s.length ∧ qNam (s.getD (r.p + n) 0) = true) then some (r.p + n) else none⟩
def moreQ (d : List UInt8) : Bool := !decide (d = [48]) && decide (d.length < 10)
/-- digits: d is what was read -/
def digQ (no : List UInt8) : List UInt8 → List UInt8 → Nat → List UInt8 × QS
  | d, [], p => (d, ⟨p, none⟩)
  | d, c :: t, p => if qDig c = true then (if d ≠ [] ∧ moreQ d = false then (d, ⟨p, some p⟩) else if d ++ [c] = no ∧ moreQ (d ++ [c]) = false then (d ++ [c], ⟨p + 1, some p⟩) else digQ no (d ++ [c]) t (p + 1)) else (d, ⟨p, none⟩)
def numQ (s : List UInt8) (no : List UInt8) (r : QS) : List UInt8 × QS :=
  if r.w ≠ none then ([], r) else
    let x := digQ no [] (s.drop r.p) r.p
    (x.1, if x.1 = [] ∨ x.1 = no then failQ x.2 x.2.p else x.2)
/-- what stands between quotation marks: b is what was read -/
def quoQ : List UInt8 → List UInt8 → Nat → List UInt8 × QS
  | b, [], p => (b, ⟨p, some p⟩)
  | b, c :: t, p => if c = 34 then (b, ⟨p + 1, if bareQ b = true ∨ b = [] then some p else none⟩)
    else if c = 92 then (match t with | [] => (b, ⟨p + 1, some (p + 1)⟩) | e :: t' => if e = 34 ∨ e = 92 then quoQ (b ++ [e]) t' (p + 2) else (b, ⟨p + 1, some (p + 1)⟩))
    else quoQ (b ++ [c]) t (p + 1)
def barLen : List UInt8 → Nat → Nat
  | [], _ => 0
  | c :: t, k => if qBar c = true ∧ (k = 0 → c ≠ 45) then barLen t (k + 1) + 1 else 0
def valQ (s : List UInt8) (r : QS) : List UInt8 × QS :=
  if isQ s r 34 = true then quoQ [] (s.drop (r.p + 1)) (r.p + 1) else if r.w ≠ none then ([], r) else
    let v := (s.drop r.p).take (barLen (s.drop r.p) 0)
    (v, ⟨r.p + v.length, if v = [] ∨ v = kOr then some (r.p + v.length) else none⟩)
def idxQ (s : List UInt8) : List (List UInt8) → Int → Int
  | [], _ => -1
  | x :: r, i => if s = x then i else idxQ s r (i + 1)
/-- the number of a word, or -1 -/
def opOf (wd : List UInt8) : Int := idxQ wd wordQ 0
def rangeQ (s : List UInt8) (op : Int) (r : QS) : PC × QS :=
  let a := numQ s [] r
  if op ≠ 4 ∨ isQ s a.2 46 = true then
    let b := numQ s (if op = 4 then a.1 else []) (takeQ s [46, 46] a.2)
    (.mk op [] (valD a.1 : Nat) (valD b.1 : Nat) [] [], b.2)
  else (.mk op [] (valD a.1 : Nat) (valD a.1 : Nat) [] [], a.2)
def leafQ (s : List UInt8) (p : Nat) : PC × QS :=
  let r := nameQ s ⟨p, none⟩
  let wd := (s.drop p).take (r.p - p)
  if isQ s r 61 = true then let v := valQ s ⟨r.p + 1, r.w⟩; (.mk 7 [] 0 0 wd v.1, v.2)
  else if isQ s r 58 = false ∨ opOf wd < 0 then (pc0, failQ r r.p)
  else if opOf wd = 8 then let n := nameQ s ⟨r.p + 1, r.w⟩; (.mk 8 [] 0 0 ((s.drop (r.p + 1)).take (n.p - (r.p + 1))) [], n)
  else if rngB (opOf wd) = true then rangeQ s (opOf wd) ⟨r.p + 1, r.w⟩
  else let v := valQ s ⟨r.p + 1, r.w⟩; (.mk (opOf wd) [] 0 0 [] v.1, v.2)
structure GQ where
  op : Int
  no : Bool
  kids : List PC
def doneQ (g : GQ) (whole : Bool) : PC × Bool :=
  if 1 < g.kids.length then (.mk g.op g.kids 0 0 [] [], true) else (g.kids.getD 0 pc0, whole || g.no && decide ((g.kids.getD 0 pc0).op = 3))
def joinQ (s : List UInt8) (op : Int) (p : Nat) : Int × QS :=
  let r := takeQ s [32] ⟨p, none⟩
  if op = 2 then (2, takeQ s kOrS r) else if (decide (op = 0) && begQ s r kOrS) = true then (2, takeQ s kOrS r) else (1, r)
inductive QStp where
  | fin (c : PC) | err (k : Nat) | next (o : List GQ) (p : Nat)
def notQ (no : Bool) (c : PC) : PC := if no = true then .mk 3 [c] 0 0 [] [] else c
/-- a condition is put into the group at hand -/
def putQ (s : List UInt8) : List GQ → PC → Bool → Nat → QStp
  | [], _, _, p => .err p
  | g :: o, c, no, p =>
    let g' : GQ := ⟨g.op, g.no, g.kids ++ [notQ no c]⟩
    if p = s.length ∧ o = [] then .fin (doneQ g' true).1
    else if isQ s ⟨p, none⟩ 41 = false ∨ o = [] then
      match (joinQ s g.op p).2.w with
      | some k => .err k
      | none => .next (⟨(joinQ s g.op p).1, g.no, g'.kids⟩ :: o) (joinQ s g.op p).2.p
    else if (doneQ g' false).2 = true then putQ s o (doneQ g' false).1 g.no (p + 1) else .err p
def readQ (s : List UInt8) : Nat → List GQ → Nat → PC ⊕ Nat
  | 0, _, p => .inr p
  | f + 1, o, p =>
    let no := isQ s ⟨p, none⟩ 45
    let p1 := if no = true then p + 1 else p
    if isQ s ⟨p1, none⟩ 40 = true then readQ s f (⟨0, no, []⟩ :: o) (p1 + 1) else
      match (leafQ s p1).2.w with
      | some k => .inr k
      | none => match putQ s o (leafQ s p1).1 no (leafQ s p1).2.p with
        | .fin c => .inl c
        | .err k => .inr k
        | .next o' p' => readQ s f o' p'
/-! ### What was written is read -/
/-- what follows at a place -/
structure At (s : List UInt8) (p : Nat) (t : List UInt8) : Prop where
  le : p ≤ s.length
  eq : s.drop p = t
theorem At.step {s : List UInt8} {p : Nat} {a t : List UInt8} (h : At s p (a ++ t)) : At s (p + a.length) t := by
  have hl := congrArg List.length h.eq
  simp only [List.length_drop, List.length_append] at hl
  have h1 := h.le
  refine ⟨by omega, ?_⟩
  rw [← List.drop_drop, h.eq, List.drop_left]
theorem At.one {s : List UInt8} {p : Nat} {c : UInt8} {t : List UInt8} (h : At s p (c :: t)) : At s (p + 1) t := At.step (a := [c]) h
theorem At.len {s : List UInt8} {p : Nat} {t : List UInt8} (h : At s p t) : p + t.length = s.length := by
  have hl := congrArg List.length h.eq
  simp only [List.length_drop] at hl
  have := h.le; omega
theorem At.get {s : List UInt8} {p : Nat} {t : List UInt8} (h : At s p t) (i : Nat) : s[p + i]? = t[i]? := by rw [← h.eq, List.getElem?_drop]
theorem At.is {s : List UInt8} {p : Nat} {c : UInt8} {t : List UInt8} (h : At s p (c :: t)) (d : UInt8) : isQ s ⟨p, none⟩ d = decide (c = d) := by
  have hl := h.len
  simp only [List.length_cons] at hl
  have hg := h.get 0
  simp only [Nat.add_zero, List.getElem?_cons_zero] at hg
  have hp : p < s.length := by omega
  have hd : s.getD p 0 = c := by rw [List.getD_eq_getElem?_getD, hg]; rfl
  unfold isQ
  rw [hd]; simp [hp]
theorem At.isN {s : List UInt8} {p : Nat} (h : At s p []) (d : UInt8) : isQ s ⟨p, none⟩ d = false := by
  have hl := h.len
  simp only [List.length_nil] at hl
  have hp : ¬ p < s.length := by omega
  simp [isQ, hp]
/-- a text that can't go on a name, a number or a value -/
def Stop (t : List UInt8) : Prop := ∀ c r, t = c :: r → c = 32 ∨ c = 41
theorem Stop.nil : Stop [] := fun c r h => by cases h
theorem Stop.sp {t : List UInt8} : Stop (32 :: t) := fun c r h => by cases h; exact .inl rfl
theorem Stop.br {t : List UInt8} : Stop (41 :: t) := fun c r h => by cases h; exact .inr rfl
theorem At.take {s : List UInt8} : ∀ {a : List UInt8} {p : Nat} {t : List UInt8}, At s p (a ++ t) → takeQ s a ⟨p, none⟩ = ⟨p + a.length, none⟩
  | [], p, t, _ => rfl
  | c :: a, p, t, h => by
    have h : At s p (c :: (a ++ t)) := h
    rw [takeQ, if_pos (by rw [h.is c]; simp), At.take h.one, List.length_cons]
    rw [show p + 1 + a.length = p + (a.length + 1) by omega]
theorem At.beg {s : List UInt8} {p : Nat} {t : List UInt8} (h : At s p t) (a : List UInt8) : begQ s ⟨p, none⟩ a = decide (t.take a.length = a) := by
  have hl := h.len
  unfold begQ
  rw [h.eq]
  by_cases he : t.take a.length = a
  · have := congrArg List.length he
    rw [List.length_take] at this
    have : a.length ≤ s.length - p := by omega
    simp [he, this]
  · simp [he]
/-- a name as it is written -/
structure NameQ (n : List UInt8) : Prop where
  ne : n ≠ []
  le : n.length ≤ 40
  first : qLet (n.getD 0 0) = true
  all : ∀ c ∈ n, qNam c = true
/-- a text whose first byte is none of a name -/
def NoNam (t : List UInt8) : Prop := ∀ c r, t = c :: r → qNam c = false
theorem nmLen_app {t : List UInt8} (ht : NoNam t) : ∀ (n : List UInt8) (k : Nat), (∀ c ∈ n, qNam c = true) → (k = 0 → ∀ c r, n = c :: r → qLet c = true) → k + n.length ≤ 40 → nmLen (n ++ t) k = n.length
  | [], k, _, _, _ => by
    cases t with
    | nil => rfl
    | cons c r => show nmLen (c :: r) k = 0; rw [nmLen, if_neg (by simp [ht c r rfl])]
  | c :: n, k, h1, h2, h3 => by
    rw [List.length_cons] at h3
    rw [List.cons_append, nmLen, if_pos ⟨h1 c List.mem_cons_self, fun hk => h2 hk c n rfl, by omega⟩, nmLen_app ht n (k + 1) (fun x hx => h1 x (List.mem_cons_of_mem _ hx)) (fun hk => by omega) (by omega), List.length_cons]
theorem NameQ.read {n t s : List UInt8} {p : Nat} (h : NameQ n) (ht : NoNam t) (ha : At s p (n ++ t)) : nameQ s ⟨p, none⟩ = ⟨p + n.length, none⟩ ∧ (s.drop p).take n.length = n := by
  have hl : nmLen (s.drop p) 0 = n.length := by
    rw [ha.eq]
    exact nmLen_app ht n 0 h.all (fun _ c r e => by have := h.first; rw [e] at this; exact this) (by have := h.le; omega)
  refine ⟨?_, by rw [ha.eq, List.take_left]⟩
  unfold nameQ
  rw [if_neg (by simp)]
  dsimp only
  rw [hl, if_neg]
  rintro (h0 | ⟨_, h1, h2⟩)
  · exact h.ne (List.length_eq_zero_iff.1 h0)
  · have hs := ha.step
    cases t with
    | nil => have := hs.len; simp at this; omega
    | cons c r =>
      have hg := hs.get 0
      simp only [Nat.add_zero, List.getElem?_cons_zero] at hg
      rw [List.getD_eq_getElem?_getD, hg] at h2
      have h3 := ht c r rfl
      rw [show (some c).getD 0 = c from rfl] at h2
      rw [h3] at h2; cases h2
/-! values -/
theorem barLen_app {t : List UInt8} (ht : ∀ c r, t = c :: r → qBar c = false) : ∀ (n : List UInt8) (k : Nat), (∀ c ∈ n, qBar c = true) → (k = 0 → ∀ c r, n = c :: r → c ≠ 45) → barLen (n ++ t) k = n.length
  | [], k, _, _ => by
    cases t with
    | nil => rfl
    | cons c r => show barLen (c :: r) k = 0; rw [barLen, if_neg (by simp [ht c r rfl])]
  | c :: n, k, h1, h2 => by
    rw [List.cons_append, barLen, if_pos ⟨h1 c List.mem_cons_self, fun hk => h2 hk c n rfl⟩, barLen_app ht n (k + 1) (fun x hx => h1 x (List.mem_cons_of_mem _ hx)) (fun hk => by omega), List.length_cons]
theorem stop_bar {t : List UInt8} (h : Stop t) : ∀ c r, t = c :: r → qBar c = false := fun c r e => by
  rcases h c r e with rfl | rfl <;> decide
theorem stop_nam {t : List UInt8} (h : Stop t) : NoNam t := fun c r e => by
  rcases h c r e with rfl | rfl <;> decide
theorem quo_34 {b t : List UInt8} {p : Nat} : quoQ b (34 :: t) p = (b, ⟨p + 1, if bareQ b = true ∨ b = [] then some p else none⟩) := by rw [quoQ.eq_def]; rfl
theorem quo_92 {b t : List UInt8} {e : UInt8} {p : Nat} (h : e = 34 ∨ e = 92) : quoQ b (92 :: e :: t) p = quoQ (b ++ [e]) t (p + 2) := by
  rw [quoQ.eq_def]; dsimp only; rw [if_neg (by decide), if_pos rfl, if_pos h]
theorem quo_c {b t : List UInt8} {c : UInt8} {p : Nat} (h1 : c ≠ 34) (h2 : c ≠ 92) : quoQ b (c :: t) p = quoQ (b ++ [c]) t (p + 1) := by
  rw [quoQ.eq_def]; dsimp only; rw [if_neg h1, if_neg h2]
theorem quo_esc {X : List UInt8} : ∀ (v b : List UInt8) (p : Nat), quoQ b (escQ v ++ 34 :: X) p = (b ++ v, ⟨p + (escQ v).length + 1, if bareQ (b ++ v) = true ∨ b ++ v = [] then some (p + (escQ v).length) else none⟩)
  | [], b, p => by
    show quoQ b (34 :: X) p = _
    rw [quo_34, List.append_nil]
    rfl
  | c :: v, b, p => by
    have e : escQ (c :: v) = escC c ++ escQ v := rfl
    have eb : b ++ [c] ++ v = b ++ c :: v := by simp
    by_cases h1 : c = 34
    · subst h1
      rw [e, show escC 34 = [92, 34] from rfl]
      show quoQ b (92 :: 34 :: (escQ v ++ 34 :: X)) p = _
      rw [quo_92 (.inl rfl), quo_esc v (b ++ [34]) (p + 2), eb]
      simp only [List.length_append, List.length_cons, List.length_nil]
      rw [show p + (0 + 1 + 1 + (escQ v).length) = p + 2 + (escQ v).length by omega]
    · by_cases h2 : c = 92
      · subst h2
        rw [e, show escC 92 = [92, 92] from rfl]
        show quoQ b (92 :: 92 :: (escQ v ++ 34 :: X)) p = _
        rw [quo_92 (.inr rfl), quo_esc v (b ++ [92]) (p + 2), eb]
        simp only [List.length_append, List.length_cons, List.length_nil]
        rw [show p + (0 + 1 + 1 + (escQ v).length) = p + 2 + (escQ v).length by omega]
      · rw [e, show escC c = [c] by unfold escC; rw [if_neg h1, if_neg h2]]
        show quoQ b (c :: (escQ v ++ 34 :: X)) p = _
        rw [quo_c h1 h2, quo_esc v (b ++ [c]) (p + 1), eb]
        simp only [List.length_append, List.length_cons, List.length_nil]
        rw [show p + (0 + 1 + (escQ v).length) = p + 1 + (escQ v).length by omega]
theorem bare_parts {v : List UInt8} (h : bareQ v = true) : v ≠ [] ∧ v.getD 0 0 ≠ 45 ∧ v ≠ kOr ∧ ∀ c ∈ v, qBar c = true := by
  unfold bareQ at h
  simp only [Bool.and_eq_true, Bool.not_eq_true', decide_eq_false_iff_not, List.all_eq_true] at h
  exact ⟨h.1.1.1, h.1.1.2, h.1.2, h.2⟩
theorem val_read {v X s : List UInt8} {p : Nat} (hv : v ≠ []) (hX : Stop X) (ha : At s p (valT v ++ X)) : valQ s ⟨p, none⟩ = (v, ⟨p + (valT v).length, none⟩) := by
  unfold valT at ha ⊢
  by_cases hb : bareQ v = true
  · rw [if_pos hb] at ha ⊢
    obtain ⟨h1, h2, h3, h4⟩ := bare_parts hb
    have hq : isQ s ⟨p, none⟩ 34 = false := by
      cases v with
      | nil => exact absurd rfl h1
      | cons c r =>
        have ha : At s p (c :: (r ++ X)) := ha
        rw [ha.is 34]
        refine decide_eq_false fun e => ?_
        have := h4 c List.mem_cons_self
        rw [e] at this; exact absurd this (by decide)
    have hl : barLen (s.drop p) 0 = v.length := by
      rw [ha.eq]
      exact barLen_app (stop_bar hX) v 0 h4 fun _ c r e => by rw [e] at h2; exact h2
    unfold valQ
    rw [if_neg (by rw [hq]; simp), if_neg (by simp)]
    dsimp only
    rw [hl, ha.eq, List.take_left, if_neg (fun e => e.elim h1 h3)]
  · rw [if_neg hb] at ha ⊢
    have ha : At s p (34 :: (escQ v ++ 34 :: X)) := by simpa using ha
    unfold valQ
    rw [if_pos (by rw [ha.is 34]; rfl)]
    dsimp only
    rw [ha.one.eq, quo_esc v [] (p + 1), List.nil_append, if_neg (fun e => e.elim hb hv)]
    simp only [List.length_append, List.length_cons, List.length_nil]
    rw [show p + 1 + (escQ v).length + 1 = p + ((escQ v).length + (0 + 1) + 1) by omega]
/-! numbers -/
/-- a number as it is written: digits, at most ten, the first no nought but in nought -/
structure NumQ (d : List UInt8) : Prop where
  ne : d ≠ []
  dig : ∀ c ∈ d, qDig c = true
  le : d.length ≤ 10
  nought : 1 < d.length → d.getD 0 0 ≠ 48
/-- a text whose first byte is no digit -/
def NoDig (t : List UInt8) : Prop := ∀ c r, t = c :: r → qDig c = false
theorem digQ_app {no t : List UInt8} (ht : NoDig t) : ∀ (a d : List UInt8) (p : Nat), NumQ (d ++ a) → (∀ b c, d ++ a = b ++ c → b = no → moreQ b = true) → digQ no d (a ++ t) p = (d ++ a, ⟨p + a.length, none⟩)
  | [], d, p, _, _ => by
    rw [List.append_nil]
    cases t with
    | nil => rfl
    | cons c r => show digQ no d (c :: r) p = _; rw [digQ, if_neg (by simp [ht c r rfl])]; rfl
  | c :: a, d, p, h, hn => by
    have e : d ++ [c] ++ a = d ++ c :: a := by simp
    have h1 := h.le
    simp only [List.length_append, List.length_cons] at h1
    have hm : ¬ (d ≠ [] ∧ moreQ d = false) := fun ⟨h0, h2⟩ => by
      have h3 : d.length < 10 := by omega
      have h4 : d ≠ [48] := fun e => h.nought (by rw [e]; simp) (by rw [e]; rfl)
      simp [moreQ, h3, h4] at h2
    have hk : ¬ (d ++ [c] = no ∧ moreQ (d ++ [c]) = false) := fun ⟨h2, h3⟩ => by
      rw [hn (d ++ [c]) a e.symm h2] at h3; cases h3
    show digQ no d (c :: (a ++ t)) p = _
    rw [digQ, if_pos (h.dig c (by simp)), if_neg hm, if_neg hk, digQ_app ht a (d ++ [c]) (p + 1) (by rw [e]; exact h) (by rw [e]; exact hn), e, List.length_cons]
    rw [show p + 1 + a.length = p + (a.length + 1) by omega]
theorem NumQ.read {d no t s : List UInt8} {p : Nat} (h : NumQ d) (ht : NoDig t) (hn : ∀ b c, d = b ++ c → b ≠ [] → b ≠ no ∨ (b ≠ d ∧ moreQ b = true)) (ha : At s p (d ++ t)) : numQ s no ⟨p, none⟩ = (d, ⟨p + d.length, none⟩) := by
  have e : digQ no [] (s.drop p) p = (d, ⟨p + d.length, none⟩) := by
    rw [ha.eq]
    refine digQ_app ht d [] p h fun b c he hb => ?_
    by_cases h0 : b = []
    · rw [h0]; rfl
    · rcases hn b c he h0 with h1 | h1
      · exact absurd hb h1
      · exact h1.2
  unfold numQ
  rw [if_neg (by simp)]
  dsimp only
  rw [e]
  dsimp only
  rw [if_neg]
  rintro (e | e)
  · exact h.ne e
  · rcases hn d [] (by simp) h.ne with h1 | h1
    · exact h1 e
    · exact h1.1 rfl
theorem qDig_of {c : UInt8} (h : digB.contains c = true) : qDig c = true := by
  have := digB_iff h
  unfold qDig
  simp; omega
theorem it_num {n : Int} (h0 : 0 ≤ n) (h1 : n ≤ 9999999999) : NumQ (Lib.itoa n) ∧ ((valD (Lib.itoa n) : Nat) : Int) = n := by
  rw [itoa_nat h0]
  obtain ⟨v1, v2, v3, v4⟩ := val_dec n.toNat
  have hl := dec_len 9 n.toNat (by omega)
  refine ⟨⟨v2, fun c hc => qDig_of (v3 c hc), by omega, fun hu hz => ?_⟩, by rw [v1]; omega⟩
  by_cases h2 : 1 ≤ n.toNat
  · exact v4 h2 (by rw [hz]; rfl)
  · have : n.toNat = 0 := by omega
    rw [this, Lib.decDigits_one (by omega)] at hu
    exact absurd hu (by decide)
/-! leaves -/
theorem stop_dig {t : List UInt8} (h : Stop t) : NoDig t := fun c r e => by
  rcases h c r e with rfl | rfl <;> decide
/-- the words of kinds are names -/
theorem word_name {op : Int} (h4 : 4 ≤ op) (h14 : op ≤ 14) (h7 : op ≠ 7) : NameQ (wdQ op) ∧ opOf (wdQ op) = op := by
  have key : ∀ k : Nat, k < 15 → 4 ≤ k → k ≠ 7 → (wdQ (k : Int) ≠ [] ∧ (wdQ (k : Int)).length ≤ 40 ∧ qLet ((wdQ (k : Int)).getD 0 0) = true ∧ (wdQ (k : Int)).all qNam = true) ∧ opOf (wdQ (k : Int)) = (k : Int) := by decide +kernel
  obtain ⟨k, rfl⟩ : ∃ k : Nat, op = k := ⟨op.toNat, by omega⟩
  obtain ⟨⟨a1, a2, a3, a4⟩, a5⟩ := key k (by omega) (by omega) (by omega)
  exact ⟨⟨a1, a2, a3, List.all_eq_true.1 a4⟩, a5⟩
/-- a leaf that is right -/
structure LeafOk (op lo hi : Int) (n t : List UInt8) : Prop where
  four : 4 ≤ op
  last : op ≤ 14
  lo0 : rngB op = false → lo = 0 ∧ hi = 0
  nums : rngB op = true → 0 ≤ lo ∧ lo ≤ 9999999999 ∧ 0 ≤ hi ∧ hi ≤ 9999999999
  level : op = 4 → lo ≤ 9 ∧ hi ≤ 9
  nm : nmdB op = true → NameQ n
  nm0 : nmdB op = false → n = []
  tx : wrdB op = true → t ≠ []
  tx0 : wrdB op = false → t = []
theorem wordAt {s w X : List UInt8} {c : UInt8} {p : Nat} (hw : NameQ w) (hc : qNam c = false) (ha : At s p (w ++ c :: X)) :
    nameQ s ⟨p, none⟩ = ⟨p + w.length, none⟩ ∧ (s.drop p).take (p + w.length - p) = w ∧ (∀ d, isQ s ⟨p + w.length, none⟩ d = decide (c = d)) ∧ At s (p + w.length + 1) X := by
  obtain ⟨h1, h2⟩ := hw.read (fun x r e => by cases e; exact hc) ha
  refine ⟨h1, by rw [Nat.add_sub_cancel_left]; exact h2, fun d => ha.step.is d, ha.step.one⟩
theorem leaf_read {op lo hi : Int} {n t X s : List UInt8} {p : Nat} (h : LeafOk op lo hi n t) (hX : Stop X) (ha : At s p (leafT op lo hi n t ++ X)) :
    leafQ s p = (.mk op [] lo hi n t, ⟨p + (leafT op lo hi n t).length, none⟩) := by
  have h4 := h.four
  have h14 := h.last
  unfold leafT at ha ⊢
  by_cases h7 : op = 7
  · rw [if_pos h7] at ha ⊢
    have hnm := h.nm (by simp [nmdB, h7])
    obtain ⟨h0, h0'⟩ := h.lo0 (by simp [rngB, h7])
    have ha : At s p (n ++ 61 :: (valT t ++ X)) := by simpa using ha
    obtain ⟨w1, w2, w3, w4⟩ := wordAt hnm (by decide) ha
    unfold leafQ
    rw [w1]
    dsimp only
    rw [w2, if_pos (by rw [w3]; rfl), val_read (h.tx (by simp [wrdB, h7])) hX w4]
    simp only [List.length_append, List.length_cons]
    rw [h7, h0, h0', show p + n.length + 1 + (valT t).length = p + (n.length + ((valT t).length + 1)) by omega]
  · rw [if_neg h7] at ha ⊢
    obtain ⟨wn, wo⟩ := word_name h4 h14 h7
    by_cases h8 : op = 8
    · rw [if_pos h8] at ha ⊢
      have hnm := h.nm (by simp [nmdB, h8])
      have ht := h.tx0 (by simp [wrdB, h8])
      obtain ⟨h0, h0'⟩ := h.lo0 (by simp [rngB, h8])
      subst h8
      have ha : At s p (wdQ 8 ++ 58 :: (n ++ X)) := by
        have e : wdQ 8 = [104, 97, 115] := rfl
        rw [e]; simpa using ha
      obtain ⟨w1, w2, w3, w4⟩ := wordAt wn (by decide) ha
      obtain ⟨n1, n2⟩ := hnm.read (stop_nam hX) w4
      unfold leafQ
      rw [w1]
      dsimp only
      rw [w2, if_neg (by rw [w3]; decide), if_neg (by rw [w3, wo]; decide), if_pos wo]
      rw [n1]
      dsimp only
      rw [Nat.add_sub_cancel_left, n2, h0, h0', ht]
      simp only [List.length_append, List.length_cons, List.length_nil]
      have e : (wdQ 8).length = 3 := rfl
      rw [e, show p + 3 + 1 + n.length = p + (0 + 1 + 1 + 1 + 1 + n.length) by omega]
    · rw [if_neg h8] at ha ⊢
      have hn0 := h.nm0 (by simp [nmdB, h7, h8])
      by_cases hr : rngB op = true
      · rw [if_pos hr] at ha ⊢
        obtain ⟨b1, b2, b3, b4⟩ := h.nums hr
        have ht := h.tx0 (by
          simp only [rngB, Bool.and_eq_true, decide_eq_true_eq] at hr
          simp only [wrdB, Bool.or_eq_false_iff, decide_eq_false_iff_not]; omega)
        obtain ⟨d1, d2⟩ := it_num b1 b2
        obtain ⟨e1, e2⟩ := it_num b3 b4
        have ha : At s p (wdQ op ++ 58 :: (Lib.itoa lo ++ ((if op ≠ 4 ∨ lo ≠ hi then [46, 46] ++ Lib.itoa hi else []) ++ X))) := by simpa using ha
        obtain ⟨w1, w2, w3, w4⟩ := wordAt wn (by decide) ha
        unfold leafQ
        rw [w1]
        dsimp only
        rw [w2, if_neg (by rw [w3]; decide), if_neg (by rw [w3, wo]; intro hh; rcases hh with hh | hh; exact absurd hh (by decide); omega), if_neg (by rw [wo]; exact h8), if_pos (by rw [wo]; exact hr), wo]
        unfold rangeQ
        dsimp only
        by_cases hlh : op ≠ 4 ∨ lo ≠ hi
        · rw [if_pos hlh] at w4 ⊢
          have w4 : At s (p + (wdQ op).length + 1) (Lib.itoa lo ++ ([46, 46] ++ (Lib.itoa hi ++ X))) := by simpa using w4
          rw [d1.read (no := []) (t := [46, 46] ++ (Lib.itoa hi ++ X)) (fun c r e => by cases e; decide) (fun b c _ hb => .inl hb) w4]
          have a2 := w4.step
          dsimp only
          rw [if_pos (by right; rw [show [46, 46] ++ (Lib.itoa hi ++ X) = 46 :: (46 :: (Lib.itoa hi ++ X)) from rfl] at a2; rw [a2.is 46]; rfl), a2.take]
          have a3 := a2.step
          rw [e1.read (t := X) (stop_dig hX) (fun b c he hb => by
            by_cases hop : op = 4
            · left
              rw [if_pos hop]
              have hl := h.level hop
              have hlen : (Lib.itoa hi).length = 1 := by
                rw [itoa_nat b3, Lib.decDigits_one (by omega)]; rfl
              have hbd : b = Lib.itoa hi := by
                have h5 := congrArg List.length he
                rw [List.length_append, hlen] at h5
                have h6 : 0 < b.length := List.length_pos_iff.2 hb
                have h7 : c = [] := List.length_eq_zero_iff.1 (by omega)
                rw [he, h7, List.append_nil]
              intro e
              rw [hbd] at e
              rw [e, d2] at e2
              exact (hlh.resolve_left (fun hh => hh hop)) e2
            · left; rw [if_neg hop]; exact hb) a3]
          dsimp only
          rw [d2, e2, hn0, ht]
          simp only [List.length_append, List.length_cons, List.length_nil]
          rw [show p + (wdQ op).length + 1 + (Lib.itoa lo).length + (0 + 1 + 1) + (Lib.itoa hi).length = p + ((wdQ op).length + ((Lib.itoa lo).length + (0 + 1 + 1 + (Lib.itoa hi).length) + 1)) by omega]
        · rw [if_neg hlh] at w4 ⊢
          have hop : op = 4 := Classical.byContradiction fun hh => hlh (.inl hh)
          have hlo : lo = hi := Classical.byContradiction fun hh => hlh (.inr hh)
          rw [d1.read (no := []) (t := X) (stop_dig hX) (fun b c _ hb => .inl hb) w4]
          have a2 : At s (p + (wdQ op).length + 1 + (Lib.itoa lo).length) X := w4.step
          dsimp only
          rw [if_neg (by
            rintro (hh | hh)
            · exact hh hop
            · cases X with
              | nil => rw [a2.isN] at hh; cases hh
              | cons c r =>
                rw [a2.is 46] at hh
                rcases hX c r rfl with rfl | rfl <;> exact absurd hh (by decide))]
          rw [d2, hn0, ht]
          simp only [List.length_append, List.length_cons, List.length_nil]
          rw [show p + (wdQ op).length + 1 + (Lib.itoa lo).length = p + ((wdQ op).length + ((Lib.itoa lo).length + 0 + 1)) by omega, ← hlo]
      · rw [if_neg hr] at ha ⊢
        have hr : rngB op = false := by simpa using hr
        obtain ⟨h0, h0'⟩ := h.lo0 hr
        have hw : wrdB op = true := by
          simp only [rngB, Bool.and_eq_false_iff, decide_eq_false_iff_not] at hr
          simp only [wrdB, Bool.or_eq_true, decide_eq_true_eq]; omega
        have ha : At s p (wdQ op ++ 58 :: (valT t ++ X)) := by simpa using ha
        obtain ⟨w1, w2, w3, w4⟩ := wordAt wn (by decide) ha
        unfold leafQ
        rw [w1]
        dsimp only
        rw [w2, if_neg (by rw [w3]; decide), if_neg (by rw [w3, wo]; intro hh; rcases hh with hh | hh; exact absurd hh (by decide); omega), if_neg (by rw [wo]; exact h8), if_neg (by rw [wo, hr]; decide), wo, val_read (h.tx hw) hX w4]
        simp only [List.length_append, List.length_cons]
        rw [hn0, h0, h0', show p + (wdQ op).length + 1 + (valT t).length = p + ((wdQ op).length + ((valT t).length + 1)) by omega]
end Go.Proofs.YtfcedlfeinnhoaaGreatDoor
end
section
namespace Go.Proofs.YtfcedlfeinnhoaaGreatDoor
set_option linter.unusedSimpArgs false
set_option linter.unusedVariables false
set_option maxRecDepth 20000
open Go.RowKit Go.Eng
/-- a group at hand gets a condition, and it is gone on -/
def goQ (s : List UInt8) (f : Nat) (o : List GQ) (c : PC) (no : Bool) (p : Nat) : PC ⊕ Nat :=
  match putQ s o c no p with
  | .fin c => .inl c
  | .err k => .inr k
  | .next o' p' => readQ s f o' p'
theorem read_eq {s : List UInt8} {f p p1 : Nat} {o : List GQ} {b : Bool} (hb : isQ s ⟨p, none⟩ 45 = b) (hp : p1 = p + if b = true then 1 else 0) :
    readQ s (f + 1) o p = if isQ s ⟨p1, none⟩ 40 = true then readQ s f (⟨0, b, []⟩ :: o) (p1 + 1) else
      match (leafQ s p1).2.w with
      | some k => .inr k
      | none => goQ s f o (leafQ s p1).1 b (leafQ s p1).2.p := by
  subst hp; subst hb
  rw [readQ]
  have e : (if isQ s ⟨p, none⟩ 45 = true then p + 1 else p) = p + if isQ s ⟨p, none⟩ 45 = true then 1 else 0 := by split <;> rfl
  rw [e]
  rfl
theorem read_push {s : List UInt8} {f p : Nat} {o : List GQ} {b : Bool} {X : List UInt8} (ha : At s p ((if b = true then [45] else []) ++ 40 :: X)) :
    readQ s (f + 1) o p = readQ s f (⟨0, b, []⟩ :: o) (p + (if b = true then 1 else 0) + 1) := by
  cases b
  · have ha : At s p (40 :: X) := ha
    rw [read_eq (b := false) (by rw [ha.is 45]; rfl) rfl]
    exact if_pos (by rw [show p + (if false = true then 1 else 0) = p from rfl, ha.is 40]; rfl)
  · have ha : At s p (45 :: 40 :: X) := ha
    rw [read_eq (b := true) (by rw [ha.is 45]; rfl) rfl]
    exact if_pos (by rw [show p + (if true = true then 1 else 0) = p + 1 from rfl, ha.one.is 40]; rfl)
theorem read_leaf {s : List UInt8} {f p : Nat} {o : List GQ} {b : Bool} {X : List UInt8} {op lo hi : Int} {n t : List UInt8} (h : LeafOk op lo hi n t) (hX : Stop X) (ha : At s p ((if b = true then [45] else []) ++ (leafT op lo hi n t ++ X))) :
    readQ s (f + 1) o p = goQ s f o (.mk op [] lo hi n t) b (p + (if b = true then 1 else 0) + (leafT op lo hi n t).length) := by
  have hd : ∃ c r, leafT op lo hi n t = c :: r ∧ qLet c = true := by
    have key : ∀ w : List UInt8, NameQ w → ∀ Y : List UInt8, ∃ c r, w ++ Y = c :: r ∧ qLet c = true := fun w hw Y => by
      cases hq : w with
      | nil => exact absurd hq hw.ne
      | cons c r => exact ⟨c, r ++ Y, rfl, by have := hw.first; rw [hq] at this; exact this⟩
    unfold leafT
    by_cases h7 : op = 7
    · rw [if_pos h7]; exact key n (h.nm (by simp [nmdB, h7])) _
    · rw [if_neg h7]
      obtain ⟨wn, _⟩ := word_name h.four h.last h7
      by_cases h8 : op = 8
      · rw [if_pos h8]; exact ⟨104, _, rfl, by decide⟩
      · rw [if_neg h8]
        split
        · exact key _ wn _
        · exact key _ wn _
  obtain ⟨c, r, hc, hl⟩ := hd
  have h45 : (45 : UInt8) ≠ c := fun e => by rw [← e] at hl; exact absurd hl (by decide)
  have h40 : (40 : UInt8) ≠ c := fun e => by rw [← e] at hl; exact absurd hl (by decide)
  cases b
  · have ha : At s p (leafT op lo hi n t ++ X) := ha
    have hb := ha
    rw [hc] at hb
    have hb : At s p (c :: (r ++ X)) := hb
    rw [read_eq (b := false) (by rw [hb.is 45]; exact decide_eq_false fun e => h45 e.symm) rfl]
    rw [show p + (if false = true then 1 else 0) = p from rfl, if_neg (by rw [hb.is 40]; simpa using fun e : c = 40 => h40 e.symm), leaf_read h hX ha]
  · have ha : At s p (45 :: (leafT op lo hi n t ++ X)) := ha
    have h2 := ha.one
    have hb := h2
    rw [hc] at hb
    have hb : At s (p + 1) (c :: (r ++ X)) := hb
    rw [read_eq (b := true) (by rw [ha.is 45]; rfl) rfl]
    rw [show p + (if true = true then 1 else 0) = p + 1 from rfl, if_neg (by rw [hb.is 40]; simpa using fun e : c = 40 => h40 e.symm), leaf_read h hX h2]
/-- a bracket ends a group -/
theorem go_close {s : List UInt8} {f p : Nat} {g : GQ} {o : List GQ} {k : PC} {no : Bool} {X : List UInt8} (ho : o ≠ []) (ha : At s p (41 :: X)) (hd : (doneQ ⟨g.op, g.no, g.kids ++ [notQ no k]⟩ false).2 = true) :
    goQ s f (g :: o) k no p = goQ s f o (doneQ ⟨g.op, g.no, g.kids ++ [notQ no k]⟩ false).1 g.no (p + 1) := by
  unfold goQ
  rw [putQ.eq_def]
  dsimp only
  rw [if_neg (fun e => ho e.2), if_neg (by rintro (e | e); (rw [ha.is 41] at e; exact absurd e (by decide)); exact ho e), if_pos hd]
/-- a sign between two conditions -/
abbrev sepQ (op : Int) : List UInt8 := if op = 2 then [32, 111, 114, 32] else [32]
theorem go_join {s : List UInt8} {f p : Nat} {g : GQ} {o : List GQ} {k : PC} {no : Bool} {op : Int} {Y : List UInt8} (hop : op = 1 ∨ op = 2) (hg : g.op = 0 ∨ g.op = op) (ha : At s p (sepQ op ++ Y)) (hY : op = 1 → Y.take 3 ≠ kOrS) :
    goQ s f (g :: o) k no p = readQ s f (⟨op, g.no, g.kids ++ [notQ no k]⟩ :: o) (p + (sepQ op).length) := by
  have hlen := ha.len
  have hsp : At s p (32 :: ((sepQ op).tail ++ Y)) := by
    rcases hop with rfl | rfl <;> exact ha
  have hne : p ≠ s.length := by
    have := hsp.len
    simp only [List.length_cons] at this; omega
  have hj : joinQ s g.op p = (op, ⟨p + (sepQ op).length, none⟩) := by
    have ht : takeQ s [32] ⟨p, none⟩ = ⟨p + 1, none⟩ := At.take (a := [32]) (t := (sepQ op).tail ++ Y) hsp
    unfold joinQ
    dsimp only
    rw [ht]
    have hb := hsp.one.beg kOrS
    rcases hop with rfl | rfl
    · have h2 : g.op ≠ 2 := by omega
      rw [if_neg h2, if_neg]
      · rfl
      · rw [hb]
        have : ((sepQ 1).tail ++ Y).take 3 ≠ kOrS := hY rfl
        simpa using fun _ => this
    · have ht2 : takeQ s kOrS ⟨p + 1, none⟩ = ⟨p + 1 + 3, none⟩ := At.take (a := kOrS) (t := Y) hsp.one
      rcases hg with hg | hg
      · rw [if_neg (by omega), if_pos, ht2]
        · rfl
        · rw [hb, hg]; rfl
      · rw [if_pos hg, ht2]; rfl
  unfold goQ
  rw [putQ.eq_def]
  dsimp only
  rw [if_neg (fun e => hne e.1), if_pos (.inl (by rw [hsp.is 41]; rfl)), hj]
/-! ### Right conditions -/
inductive Rt : PC → Prop where
  | grp (op : Int) (kids : List PC) : op = 1 ∨ op = 2 → 2 ≤ kids.length → (∀ k ∈ kids, Rt k) → Rt (.mk op kids 0 0 [] [])
  | no (x : PC) : Rt x → Rt (.mk 3 [x] 0 0 [] [])
  | leaf (op lo hi : Int) (n t : List UInt8) : LeafOk op lo hi n t → Rt (.mk op [] lo hi n t)
/-- no kid's text begins with the sign of an Or -/
theorem no_or {w Y : List UInt8} {c : UInt8} (hw : NameQ w) (hc : c = 61 ∨ c = 58) : (w ++ c :: Y).take 3 ≠ kOrS := by
  match w, hw with
  | [], hw => exact absurd rfl hw.ne
  | [a], _ => rcases hc with rfl | rfl <;> simp
  | [a, b], _ => rcases hc with rfl | rfl <;> simp
  | a :: b :: d :: r, hw =>
    have h := hw.all d (by simp)
    intro e
    simp only [List.cons_append, List.take_succ_cons, List.cons.injEq] at e
    rw [e.2.2.1] at h; exact absurd h (by decide)
theorem leaf_or {op lo hi : Int} {n t Y : List UInt8} (h : LeafOk op lo hi n t) : (leafT op lo hi n t ++ Y).take 3 ≠ kOrS := by
  unfold leafT
  by_cases h7 : op = 7
  · rw [if_pos h7, List.append_assoc]; exact no_or (h.nm (by simp [nmdB, h7])) (.inl rfl)
  · rw [if_neg h7]
    obtain ⟨wn, _⟩ := word_name h.four h.last h7
    by_cases h8 : op = 8
    · rw [if_pos h8]; simp
    · rw [if_neg h8]
      split
      · rw [List.append_assoc]; exact no_or wn (.inr rfl)
      · rw [List.append_assoc]; exact no_or wn (.inr rfl)
theorem text_leaf {op lo hi : Int} {kids : List PC} {n t : List UInt8} (h : 4 ≤ op) : textP (.mk op kids lo hi n t) = leafT op lo hi n t := by
  rw [textP, if_neg (by omega), if_neg (by omega), if_neg (by omega)]
theorem text_not {x : PC} {lo hi : Int} {n t : List UInt8} : textP (.mk 3 [x] lo hi n t) = 45 :: kidT 3 x := by
  rw [textP, if_neg (by decide), if_neg (by decide), if_pos rfl, textL_map]; rfl
theorem text_grp {op lo hi : Int} {kids : List PC} {n t : List UInt8} (h : op = 1 ∨ op = 2) : textP (.mk op kids lo hi n t) = jnQ (sepQ op) (kids.map (kidT op)) := by
  rw [textP]
  rcases h with rfl | rfl
  · rw [if_pos rfl, textL_map]; rfl
  · rw [if_neg (by decide), if_pos rfl, textL_map]; rfl
theorem kid_leaf {of op lo hi : Int} {n t : List UInt8} (h : 4 ≤ op) : kidT of (.mk op [] lo hi n t) = leafT op lo hi n t := by
  unfold kidT
  rw [if_neg, text_leaf h]
  show ¬ bracB of op = true
  simp [bracB]; omega
theorem kid_no {of : Int} (h : of = 1 ∨ of = 2) {x : PC} : kidT of (.mk 3 [x] 0 0 [] []) = 45 :: kidT 3 x := by
  unfold kidT
  rw [if_neg, text_not]
  · rfl
  · show ¬ bracB of 3 = true
    simp [bracB]; omega
theorem kid_grp {of op : Int} {kids : List PC} (h : op = 1 ∨ op = 2) : kidT of (.mk op kids 0 0 [] []) = 40 :: (textP (.mk op kids 0 0 [] []) ++ [41]) := by
  unfold kidT
  rw [if_pos]
  show bracB of op = true
  rcases h with rfl | rfl <;> rfl
theorem kid_nn {x : PC} : kidT 3 (.mk 3 [x] 0 0 [] []) = 40 :: (textP (.mk 3 [x] 0 0 [] []) ++ [41]) := by
  unfold kidT
  rw [if_pos]
  rfl
theorem kid_or {c : PC} {of : Int} (hof : of = 1 ∨ of = 2) (h : Rt c) {Y : List UInt8} : (kidT of c ++ Y).take 3 ≠ kOrS := by
  cases h with
  | grp op kids hop _ _ => rw [kid_grp hop]; simp
  | no x _ => rw [kid_no hof]; simp
  | leaf op lo hi n t hl => rw [kid_leaf hl.four]; exact leaf_or hl
/-- read as a kid of a group -/
def KidR (c : PC) : Prop := ∀ (s : List UInt8) (of : Int) (p : Nat) (o : List GQ) (X : List UInt8), of = 1 ∨ of = 2 → o ≠ [] → Stop X → At s p (kidT of c ++ X) →
  ∃ m k no, notQ no k = c ∧ ∀ f, readQ s (f + m) o p = goQ s f o k no (p + (kidT of c).length)
/-- read between brackets -/
def BrkR (c : PC) : Prop := ∀ (s : List UInt8) (b : Bool) (p : Nat) (o : List GQ) (X : List UInt8), (c.op = 3 → b = true) → c.op ≤ 3 → o ≠ [] → Stop X → At s p ((if b = true then [45] else []) ++ (40 :: (textP c ++ [41]) ++ X)) →
  ∃ m, ∀ f, readQ s (f + m) o p = goQ s f o c b (p + (if b = true then 1 else 0) + ((textP c).length + 2))
/-- the kids of a group one after the other -/
theorem seq_read {op : Int} (hop : op = 1 ∨ op = 2) {s : List UInt8} {b : Bool} {o : List GQ} {X : List UInt8} (hX : Stop X) : ∀ (l : List PC), l ≠ [] → (∀ k ∈ l, KidR k) → (∀ k ∈ l, Rt k) → ∀ (acc : List PC) (op' : Int) (p : Nat), (op' = 0 ∨ op' = op) → At s p (jnQ (sepQ op) (l.map (kidT op)) ++ X) →
    ∃ m op'' i k no, (i ++ [notQ no k] = acc ++ l) ∧ ((op'' = op' ∧ l.length = 1) ∨ op'' = op) ∧ ∀ f, readQ s (f + m) (⟨op', b, acc⟩ :: o) p = goQ s f (⟨op'', b, i⟩ :: o) k no (p + (jnQ (sepQ op) (l.map (kidT op))).length)
  | [], h, _, _, _, _, _, _, _ => absurd rfl h
  | [x], _, hk, _, acc, op', p, _, ha => by
    obtain ⟨m, k, no, h1, h2⟩ := hk x List.mem_cons_self s op p (⟨op', b, acc⟩ :: o) X hop (by simp) hX ha
    exact ⟨m, op', acc, k, no, by rw [h1], .inl ⟨rfl, rfl⟩, h2⟩
  | x :: y :: r, _, hk, hr, acc, op', p, hop', ha => by
    have e : jnQ (sepQ op) ((x :: y :: r).map (kidT op)) = kidT op x ++ sepQ op ++ jnQ (sepQ op) ((y :: r).map (kidT op)) := rfl
    rw [e] at ha ⊢
    have ha : At s p (kidT op x ++ (sepQ op ++ (jnQ (sepQ op) ((y :: r).map (kidT op)) ++ X))) := by simpa using ha
    have hS : Stop (sepQ op ++ (jnQ (sepQ op) ((y :: r).map (kidT op)) ++ X)) := by
      rcases hop with rfl | rfl <;> exact Stop.sp
    obtain ⟨m, k, no, h1, h2⟩ := hk x List.mem_cons_self s op p (⟨op', b, acc⟩ :: o) _ hop (by simp) hS ha
    have ha2 := ha.step
    have hor : op = 1 → (jnQ (sepQ op) ((y :: r).map (kidT op)) ++ X).take 3 ≠ kOrS := fun _ => by
      have hy := hr y (by simp)
      cases r with
      | nil => exact kid_or hop hy
      | cons z r => rw [show jnQ (sepQ op) ((y :: z :: r).map (kidT op)) = kidT op y ++ sepQ op ++ jnQ (sepQ op) ((z :: r).map (kidT op)) from rfl, List.append_assoc, List.append_assoc]; exact kid_or hop hy
    obtain ⟨m2, op2, i, k2, no2, g1, g2, g3⟩ := seq_read hop (s := s) (b := b) (o := o) hX (y :: r) (by simp) (fun z hz => hk z (List.mem_cons_of_mem _ hz)) (fun z hz => hr z (List.mem_cons_of_mem _ hz)) (acc ++ [x]) op (p + (kidT op x).length + (sepQ op).length) (.inr rfl) ha2.step
    refine ⟨m2 + m, op2, i, k2, no2, by rw [g1]; simp, .inr (g2.elim (·.1) id), fun f => ?_⟩
    rw [← Nat.add_assoc, h2, go_join (g := ⟨op', b, acc⟩) hop hop' ha2 hor, h1, g3]
    rw [show p + (kidT op x).length + (sepQ op).length + (jnQ (sepQ op) ((y :: r).map (kidT op))).length = p + (kidT op x ++ sepQ op ++ jnQ (sepQ op) ((y :: r).map (kidT op))).length by simp only [List.length_append]; omega]
/-- a group's kids, and what it is then -/
theorem grp_read {op : Int} {kids : List PC} (hop : op = 1 ∨ op = 2) (h2 : 2 ≤ kids.length) (hk : ∀ k ∈ kids, KidR k) (hr : ∀ k ∈ kids, Rt k) {s : List UInt8} {b : Bool} {o : List GQ} {X : List UInt8} {p : Nat} (hX : Stop X) (ha : At s p (textP (.mk op kids 0 0 [] []) ++ X)) :
    ∃ m i k no, i ++ [notQ no k] = kids ∧ ∀ f, readQ s (f + m) (⟨0, b, []⟩ :: o) p = goQ s f (⟨op, b, i⟩ :: o) k no (p + (textP (.mk op kids 0 0 [] [])).length) := by
  rw [text_grp hop] at ha ⊢
  obtain ⟨m, op2, i, k, no, h3, h4, h5⟩ := seq_read hop (b := b) (o := o) hX kids (fun e => by rw [e] at h2; simp at h2) hk hr [] 0 p (.inl rfl) ha
  have : op2 = op := by
    rcases h4 with h4 | h4
    · omega
    · exact h4
  subst this
  exact ⟨m, i, k, no, by simpa using h3, h5⟩
theorem reads (c : PC) : Rt c → KidR c ∧ BrkR c := by
  induction c using PC.ind with
  | h c ih =>
    intro hc
    have grpB : ∀ {op : Int} {kids : List PC}, c = .mk op kids 0 0 [] [] → (op = 1 ∨ op = 2) → 2 ≤ kids.length → (∀ k ∈ kids, Rt k) → BrkR c := by
      intro op kids e hop h2 hr
      subst e
      intro s b p o X _ _ ho hX ha
      have ha : At s p ((if b = true then [45] else []) ++ 40 :: (textP (.mk op kids 0 0 [] []) ++ (41 :: X))) := by simpa using ha
      have ha2 : At s (p + (if b = true then 1 else 0) + 1) (textP (.mk op kids 0 0 [] []) ++ (41 :: X)) := by
        cases b
        · exact At.one (c := 40) ha
        · exact At.one (c := 40) (At.one (c := 45) ha)
      obtain ⟨m, i, k, no, g1, g2⟩ := grp_read hop h2 (fun k hk => (ih k hk (hr k hk)).1) hr (b := b) (o := o) Stop.br ha2
      have hd : doneQ ⟨op, b, i ++ [notQ no k]⟩ false = (.mk op kids 0 0 [] [], true) := by
        unfold doneQ
        dsimp only
        rw [g1, if_pos (by omega)]
      refine ⟨m + 1, fun f => ?_⟩
      rw [← Nat.add_assoc, read_push ha, g2, go_close (g := ⟨op, b, i⟩) ho ha2.step (by rw [hd]), hd]
      dsimp only
      rw [show p + (if b = true then 1 else 0) + 1 + (textP (PC.mk op kids 0 0 [] [])).length + 1 = p + (if b = true then 1 else 0) + ((textP (PC.mk op kids 0 0 [] [])).length + 2) by omega]
    cases hc with
    | leaf op lo hi n t hl =>
      refine ⟨fun s of p o X hof _ hX ha => ?_, fun s b p o X _ h3 => ?_⟩
      · rw [kid_leaf hl.four] at ha ⊢
        exact ⟨1, .mk op [] lo hi n t, false, rfl, fun f => read_leaf (b := false) hl hX ha⟩
      · exact absurd h3 (by have := hl.four; show ¬ op ≤ 3; omega)
    | grp op kids hop h2 hr =>
      have hB := grpB rfl hop h2 hr
      refine ⟨fun s of p o X hof ho hX ha => ?_, hB⟩
      rw [kid_grp hop] at ha ⊢
      obtain ⟨m, h⟩ := hB s false p o X (fun e => by have e : op = 3 := e; omega) (by show op ≤ 3; omega) ho hX ha
      refine ⟨m, _, false, rfl, fun f => ?_⟩
      rw [h]
      simp
    | no x hx =>
      have hx' := ih x List.mem_cons_self hx
      have hB : BrkR x → x.op ≤ 3 → kidT 3 x = 40 :: (textP x ++ [41]) → KidR (.mk 3 [x] 0 0 [] []) := fun hb h3 e s of p o X hof ho hX ha => by
        rw [kid_no hof, e] at ha ⊢
        obtain ⟨m, h⟩ := hb s true p o X (fun _ => rfl) h3 ho hX ha
        refine ⟨m, x, true, rfl, fun f => ?_⟩
        rw [h]
        rw [show p + (if true = true then 1 else 0) + ((textP x).length + 2) = p + (45 :: 40 :: (textP x ++ [41])).length by simp only [List.length_cons, List.length_append, List.length_nil, if_true]; omega]
      have hK : KidR (.mk 3 [x] 0 0 [] []) := by
        cases hx with
        | grp op kids hop h2 hr => exact hB hx'.2 (by show op ≤ 3; omega) (kid_grp hop)
        | no y hy => exact hB hx'.2 (by show (3 : Int) ≤ 3; omega) kid_nn
        | leaf op lo hi n t hl =>
          intro s of p o X hof _ hX ha
          rw [kid_no hof, kid_leaf hl.four] at ha ⊢
          refine ⟨1, .mk op [] lo hi n t, true, rfl, fun f => ?_⟩
          rw [read_leaf (b := true) hl hX ha, List.length_cons]
          rw [show p + (if true = true then 1 else 0) + (leafT op lo hi n t).length = p + ((leafT op lo hi n t).length + 1) by simp only [if_true]; omega]
      refine ⟨hK, fun s b p o X hb _ ho hX ha => ?_⟩
      have hb : b = true := hb rfl
      subst hb
      have e : textP (.mk 3 [x] 0 0 [] []) = kidT 1 (.mk 3 [x] 0 0 [] []) := by rw [text_not, kid_no (.inl rfl)]
      rw [e] at ha ⊢
      have ha : At s p ((if true = true then [45] else []) ++ 40 :: (kidT 1 (.mk 3 [x] 0 0 [] []) ++ (41 :: X))) := by simpa using ha
      have ha2 : At s (p + 1 + 1) (kidT 1 (.mk 3 [x] 0 0 [] []) ++ (41 :: X)) := At.one (c := 40) (At.one (c := 45) ha)
      obtain ⟨m, k, no, g1, g2⟩ := hK s 1 (p + 1 + 1) (⟨0, true, []⟩ :: o) (41 :: X) (.inl rfl) (by simp) Stop.br ha2
      have hd : doneQ ⟨0, true, [] ++ [notQ no k]⟩ false = (.mk 3 [x] 0 0 [] [], true) := by
        rw [g1]; rfl
      refine ⟨m + 1, fun f => ?_⟩
      rw [← Nat.add_assoc, read_push ha, show p + (if true = true then 1 else 0) + 1 = p + 1 + 1 from rfl, g2, go_close (g := ⟨0, true, []⟩) ho ha2.step (by rw [hd]), hd]
      dsimp only
      rw [show p + 1 + 1 + (kidT 1 (PC.mk 3 [x] 0 0 [] [])).length + 1 = p + (if true = true then 1 else 0) + ((kidT 1 (PC.mk 3 [x] 0 0 [] [])).length + 2) by simp only [if_true]; omega]
/-- the whole -/
theorem read_text {c : PC} (h : Rt c) : ∃ m, ∀ f, readQ (textP c) (f + m) [⟨0, false, []⟩] 0 = .inl c := by
  have ha : At (textP c) 0 (textP c ++ []) := ⟨Nat.zero_le _, by simp⟩
  have fin : ∀ {g : GQ} {k : PC} {no : Bool} {c' : PC}, (doneQ ⟨g.op, g.no, g.kids ++ [notQ no k]⟩ true).1 = c' → ∀ f, goQ (textP c) f [g] k no (0 + (textP c).length) = .inl c' := fun {g k no c'} e f => by
    unfold goQ
    rw [putQ.eq_def]
    dsimp only
    rw [if_pos ⟨by omega, rfl⟩]
    dsimp only
    rw [e]
  have one : KidR c → kidT 1 c = textP c → ∃ m, ∀ f, readQ (textP c) (f + m) [⟨0, false, []⟩] 0 = .inl c := fun hk e => by
    rw [← e] at ha
    obtain ⟨m, k, no, g1, g2⟩ := hk (kidT 1 c) 1 0 [⟨0, false, []⟩] [] (.inl rfl) (by simp) Stop.nil ha
    rw [e] at g2
    exact ⟨m, fun f => by rw [g2, fin (g := ⟨0, false, []⟩) (c' := c)]; rw [g1]; rfl⟩
  have hk := (reads c h).1
  cases h with
  | grp op kids hop h2 hr =>
    obtain ⟨m, i, k, no, g1, g2⟩ := grp_read hop h2 (fun k hk => (reads k (hr k hk)).1) hr (b := false) (o := []) Stop.nil ha
    refine ⟨m, fun f => ?_⟩
    rw [g2, fin (g := ⟨op, false, i⟩) (c' := .mk op kids 0 0 [] [])]
    unfold doneQ
    dsimp only
    rw [g1, if_pos (by omega)]
  | no x _ => exact one hk (by rw [text_not, kid_no (.inl rfl)])
  | leaf op lo hi n t hl => exact one hk (by rw [kid_leaf hl.four, text_leaf hl.four])
end Go.Proofs.YtfcedlfeinnhoaaGreatDoor
end
section
namespace Go.Proofs.YtfcedlfeinnhoaaGreatDoor
set_option linter.unusedSimpArgs false
set_option linter.unusedVariables false
set_option maxRecDepth 20000
open Go.RowKit Go.Eng
section
variable (e : UInt8 → UInt8 → Bool)
def gm : List UInt8 → List UInt8 → Bool
  | [], [] => true
  | [], _ :: _ => false
  | a :: p, [] => decide (a = 42) && gm p []
  | a :: p, c :: r => if a = 42 then gm p (c :: r) || gm (a :: p) r else e a c && gm p r
termination_by p s => p.length + s.length
end
section
variable {e : UInt8 → UInt8 → Bool}
theorem gm_star {p s : List UInt8} : gm e (42 :: p) s = true ↔ ∃ m, m ≤ s.length ∧ gm e p (s.drop m) = true := by
  induction s with
  | nil =>
    rw [gm]
    simp only [decide_true, Bool.true_and, List.length_nil, List.drop_nil]
    exact ⟨fun h => ⟨0, Nat.le_refl _, h⟩, fun ⟨m, _, h⟩ => h⟩
  | cons c r ih =>
    rw [gm, if_pos rfl, Bool.or_eq_true, ih]
    constructor
    · rintro (h | ⟨m, h1, h2⟩)
      · exact ⟨0, Nat.zero_le _, h⟩
      · exact ⟨m + 1, by rw [List.length_cons]; omega, by rw [List.drop_succ_cons]; exact h2⟩
    · rintro ⟨m, h1, h2⟩
      cases m with
      | zero => exact .inl h2
      | succ m => exact .inr ⟨m, by rw [List.length_cons] at h1; omega, by rw [List.drop_succ_cons] at h2; exact h2⟩
theorem gm_lit {a c : UInt8} {p r : List UInt8} (h : a ≠ 42) : gm e (a :: p) (c :: r) = (e a c && gm e p r) := by rw [gm, if_neg h]
theorem gm_lit0 {a : UInt8} {p : List UInt8} (h : a ≠ 42) : gm e (a :: p) [] = false := by rw [gm, decide_eq_false h, Bool.false_and]
/-! ### The table of all beginnings -/
/-! ### Back to the last star -/
/-- where the search stands: the last star at 'st' was tried from 'mk' on; the pattern from there to 'i' has no star -/
structure Tried (e : UInt8 → UInt8 → Bool) (p s : List UInt8) (i k : Nat) (st : Option Nat) (mk : Nat) : Prop where
  hi : i ≤ p.length
  hk : k ≤ s.length
  hst : ∀ j, st = some j → j < i ∧ k = mk + (i - j - 1) ∧ p.getD j 0 = 42 ∧ ∀ m, j < m → m < i → p.getD m 0 ≠ 42
  no : st = none → mk = 0
  eq : gm e p s = true ↔ gm e (p.drop i) (s.drop k) = true ∨ ∃ j, st = some j ∧ ∃ m, mk < m ∧ m ≤ s.length ∧ gm e (p.drop (j + 1)) (s.drop m) = true
theorem Tried.start (p s : List UInt8) : Tried e p s 0 0 none 0 := ⟨Nat.zero_le _, Nat.zero_le _, (fun j h => by cases h), (fun _ => rfl), by simp⟩
theorem drop_getD {p : List UInt8} {i : Nat} (h : i < p.length) : p.drop i = p.getD i 0 :: p.drop (i + 1) := by
  rw [List.drop_eq_getElem_cons h, List.getD_eq_getElem?_getD, List.getElem?_eq_getElem h]; rfl
/-- literals take as many bytes as they are -/
theorem gm_lits {p s : List UInt8} : ∀ (n i : Nat), i + n ≤ p.length → (∀ m, i ≤ m → m < i + n → p.getD m 0 ≠ 42) → gm e (p.drop i) s = true → n ≤ s.length ∧ gm e (p.drop (i + n)) (s.drop n) = true
  | 0, i, _, _, h => ⟨Nat.zero_le _, by simpa using h⟩
  | n + 1, i, hl, hn, h => by
    have ha := hn i (Nat.le_refl _) (by omega)
    rw [drop_getD (by omega)] at h
    cases s with
    | nil => rw [gm_lit0 ha] at h; cases h
    | cons c r =>
      rw [gm_lit ha, Bool.and_eq_true] at h
      obtain ⟨h1, h2⟩ := gm_lits (s := r) n (i + 1) (by omega) (fun m h1 h2 => hn m (by omega) (by omega)) h.2
      exact ⟨by rw [List.length_cons]; omega, by rw [List.drop_succ_cons, show i + (n + 1) = i + 1 + n by omega]; exact h2⟩
theorem Tried.later {p s : List UInt8} {i k mk j m : Nat} {st : Option Nat} (h : Tried e p s i k st mk) (hst : st = some j) (hm : mk < m) (hg : gm e (p.drop (j + 1)) (s.drop m) = true) : k < m + (i - j - 1) ∧ m + (i - j - 1) ≤ max m s.length ∧ gm e (p.drop i) (s.drop (m + (i - j - 1))) = true := by
  obtain ⟨h1, h2, h3, h4⟩ := h.hst j hst
  have hi := h.hi
  obtain ⟨g1, g2⟩ := gm_lits (i - j - 1) (j + 1) (by omega) (fun q h5 h6 => h4 q (by omega) (by omega)) hg
  rw [List.length_drop] at g1
  rw [List.drop_drop, show j + 1 + (i - j - 1) = i by omega] at g2
  exact ⟨by omega, by omega, g2⟩
theorem Tried.star {p s : List UInt8} {i k mk : Nat} {st : Option Nat} (h : Tried e p s i k st mk) (hi : i < p.length) (ha : p.getD i 0 = 42) : Tried e p s (i + 1) k (some i) k := by
  refine ⟨hi, h.hk, fun j hj => ?_, (fun hh => by cases hh), ?_⟩
  · cases hj
    exact ⟨by omega, by omega, ha, fun m h1 h2 => by omega⟩
  · have hk := h.hk
    rw [h.eq, drop_getD hi, ha, gm_star]
    constructor
    · rintro (⟨m, h1, h2⟩ | ⟨j, hj, m, h1, h2, h3⟩)
      · rw [List.length_drop] at h1
        rw [List.drop_drop] at h2
        by_cases hm : m = 0
        · subst hm; exact .inl (by simpa using h2)
        · exact .inr ⟨i, rfl, k + m, by omega, by omega, h2⟩
      · obtain ⟨l1, l2, l3⟩ := h.later hj h1 h3
        rw [drop_getD hi, ha, gm_star] at l3
        obtain ⟨q, q1, q2⟩ := l3
        rw [List.length_drop] at q1
        rw [List.drop_drop] at q2
        refine .inr ⟨i, rfl, m + (i - j - 1) + q, by omega, by omega, q2⟩
    · rintro (h1 | ⟨j, hj, m, h1, h2, h3⟩)
      · exact .inl ⟨0, Nat.zero_le _, by simpa using h1⟩
      · cases hj
        refine .inl ⟨m - k, by rw [List.length_drop]; omega, ?_⟩
        rw [List.drop_drop, show k + (m - k) = m by omega]; exact h3
theorem Tried.lit {p s : List UInt8} {i k mk : Nat} {st : Option Nat} (h : Tried e p s i k st mk) (hi : i < p.length) (hk : k < s.length) (ha : p.getD i 0 ≠ 42) (he : e (p.getD i 0) (s.getD k 0) = true) : Tried e p s (i + 1) (k + 1) st mk := by
  refine ⟨hi, hk, fun j hj => ?_, h.no, ?_⟩
  · obtain ⟨h1, h2, h3, h4⟩ := h.hst j hj
    exact ⟨by omega, by omega, h3, fun m m1 m2 => by
      by_cases hm : m = i
      · subst hm; exact ha
      · exact h4 m m1 (by omega)⟩
  · rw [h.eq, drop_getD hi, drop_getD hk, gm_lit ha, he, Bool.true_and]
theorem Tried.back {p s : List UInt8} {i k mk j : Nat} (h : Tried e p s i k (some j) mk) (hk : k < s.length) (hno : i < p.length → p.getD i 0 ≠ 42 ∧ e (p.getD i 0) (s.getD k 0) = false) : Tried e p s (j + 1) (mk + 1) (some j) (mk + 1) := by
  obtain ⟨h1, h2, h3, h4⟩ := h.hst j rfl
  have hi := h.hi
  refine ⟨by omega, by omega, fun q hq => ?_, (fun hh => by cases hh), ?_⟩
  · cases hq
    exact ⟨by omega, by omega, h3, fun m m1 m2 => by omega⟩
  · have hf : gm e (p.drop i) (s.drop k) = false := by
      by_cases hip : i < p.length
      · obtain ⟨a1, a2⟩ := hno hip
        rw [drop_getD hip, drop_getD hk, gm_lit a1, a2, Bool.false_and]
      · rw [List.drop_eq_nil_of_le (by omega), drop_getD hk, gm]
    rw [h.eq, hf]
    constructor
    · rintro (h5 | ⟨q, hq, m, m1, m2, m3⟩)
      · cases h5
      · cases hq
        by_cases hm : m = mk + 1
        · subst hm; exact .inl m3
        · exact .inr ⟨j, rfl, m, by omega, m2, m3⟩
    · rintro (h5 | ⟨q, hq, m, m1, m2, m3⟩)
      · exact .inr ⟨j, rfl, mk + 1, by omega, by omega, h5⟩
      · cases hq; exact .inr ⟨j, rfl, m, by omega, m2, m3⟩
theorem Tried.fail {p s : List UInt8} {i k mk : Nat} (h : Tried e p s i k none mk) (hk : k < s.length) (hno : i < p.length → p.getD i 0 ≠ 42 ∧ e (p.getD i 0) (s.getD k 0) = false) : gm e p s = false := by
  have hf : gm e (p.drop i) (s.drop k) = false := by
    by_cases hip : i < p.length
    · obtain ⟨a1, a2⟩ := hno hip
      rw [drop_getD hip, drop_getD hk, gm_lit a1, a2, Bool.false_and]
    · rw [List.drop_eq_nil_of_le (by omega), drop_getD hk, gm]
  rw [← Bool.not_eq_true, h.eq, hf]
  rintro (h | ⟨j, hj, _⟩)
  · cases h
  · cases hj
theorem gm_stars : ∀ p : List UInt8, gm e p [] = p.all fun c => decide (c = 42)
  | [] => by rw [gm]; rfl
  | a :: p => by rw [gm, gm_stars p, List.all_cons]
theorem Tried.done {p s : List UInt8} {i k mk : Nat} {st : Option Nat} (h : Tried e p s i k st mk) (hk : s.length ≤ k) : gm e p s = (p.drop i).all fun c => decide (c = 42) := by
  rw [← gm_stars (e := e), Bool.eq_iff_iff, h.eq, List.drop_eq_nil_of_le hk]
  constructor
  · rintro (h1 | ⟨j, hj, m, m1, m2, m3⟩)
    · exact h1
    · obtain ⟨l1, l2, l3⟩ := h.later hj m1 m3
      have := h.hk
      omega
  · exact .inl
end
end Go.Proofs.YtfcedlfeinnhoaaGreatDoor
end
section
namespace Go.Proofs.YtfcedlfeinnhoaaGreatDoor
set_option linter.unusedSimpArgs false
set_option linter.unusedVariables false
set_option maxRecDepth 20000
open Go.RowKit Go.Eng
theorem IndexByte_any (s : List UInt8) (c : UInt8) (w : World) :
    Calls Tryz.prog 110 #[str s, .int .u8 (c.toNat : Int)] w fun e w' => e = .returned (.int .i64 (Lib.indexByte s c)) ∧ Below w.heap.size w w' := by
  refine (Tryz.strings_IndexByte ⟨s.toArray⟩ (c.toNat : Int) w).mono fun e w' ⟨h1, h2⟩ => ⟨?_, h2 ▸ Below.refl _ _⟩
  rw [h1]; simp
end Go.Proofs.YtfcedlfeinnhoaaGreatDoor
end
section
namespace Go.Proofs.YtfcedlfeinnhoaaGreatDoor
set_option linter.unusedSimpArgs false
set_option linter.unusedVariables false
set_option maxRecDepth 20000
open Go.RowKit Go.Eng
structure Frm where
  m : List UInt8
  f : List UInt8
  fi : List UInt8
  ln : Int
  ad : Int
  own : Bool
/-! ### The reference's -/
theorem mem_at {α : Type} {l : List α} {i : Nat} {x : α} (h : l[i]? = some x) : x ∈ l := List.mem_of_getElem? h
end Go.Proofs.YtfcedlfeinnhoaaGreatDoor
end
section
namespace Go.Proofs.YtfcedlfeinnhoaaGreatDoor
set_option linter.unusedSimpArgs false
set_option linter.unusedVariables false
set_option maxRecDepth 20000
open Go.RowKit Go.Eng
/-- a name: 1 to 40 bytes, the first one a small letter -/
def nameBs : List UInt8 := [97, 98, 99, 100, 101, 102, 103, 104, 105, 106, 107, 108, 109, 110, 111, 112, 113, 114, 115, 116, 117, 118, 119, 120, 121, 122, 48, 49, 50, 51, 52, 53, 54, 55, 56, 57, 45, 46, 95]
def nameOk (s : List UInt8) : Bool := !decide (s = []) && decide ((s.length : Int) ≤ 40) && decide ((97 : Int) ≤ ((s.getD 0 0).toNat : Int)) && decide (((s.getD 0 0).toNat : Int) ≤ 122) && decide (Lib.trimS s nameBs = [])
structure Flt where
  k : List UInt8
  t : List UInt8
  fr : Sl Frm
structure STag where
  n : List UInt8
  v : List UInt8
structure SCrumb where
  at_ : Int
  k : List UInt8
  t : List UInt8
structure Evt where
  id : List UInt8
  at_ : Int
  lv : Int
  fa : Sl Flt
  ta : Sl STag
  cr : Sl SCrumb
  rel : List UInt8
  us : List UInt8
  wt : Int
section
variable {w w' : World} (hb : Below w.heap.size w w')
include hb
end
/-! ### The codes of their faults -/
theorem name_t {s : List UInt8} (h : (decide ((s.length : Int) < 1) || decide ((40 : Int) < (s.length : Int)) || decide (((s.getD 0 0).toNat : Int) < 97) || decide ((122 : Int) < ((s.getD 0 0).toNat : Int))) = true) : nameOk s = false := by
  unfold nameOk
  cases s with
  | nil => rfl
  | cons a r =>
    simp only [Bool.or_eq_true, decide_eq_true_eq, List.length_cons] at h
    rw [Bool.eq_false_iff]
    simp only [ne_eq, Bool.and_eq_true, decide_eq_true_eq, List.length_cons]
    omega
theorem name_f {s : List UInt8} (h : (decide ((s.length : Int) < 1) || decide ((40 : Int) < (s.length : Int)) || decide (((s.getD 0 0).toNat : Int) < 97) || decide ((122 : Int) < ((s.getD 0 0).toNat : Int))) = false) : s.length ≤ 40 ∧ decide (Lib.trimS s nameBs = []) = nameOk s := by
  cases s with
  | nil => simp at h
  | cons a r =>
    simp only [Bool.or_eq_false_iff, decide_eq_false_iff_not, List.length_cons] at h
    refine ⟨by simp only [List.length_cons]; omega, ?_⟩
    unfold nameOk
    rw [show (!decide (a :: r = [])) = true from by simp, show decide (((a :: r).length : Int) ≤ 40) = true from decide_eq_true (by simp only [List.length_cons]; omega), show decide ((97 : Int) ≤ (((a :: r).getD 0 0).toNat : Int)) = true from decide_eq_true (by omega),
      show decide ((((a :: r).getD 0 0).toNat : Int) ≤ 122) = true from decide_eq_true (by omega)]
    rfl
end Go.Proofs.YtfcedlfeinnhoaaGreatDoor
end
section
namespace Go.Proofs.YtfcedlfeinnhoaaGreatDoor
set_option linter.unusedSimpArgs false
set_option linter.unusedVariables false
set_option maxRecDepth 20000
open Go.RowKit Go.Eng
section
variable {H : Type} {enc : TypeId × Value → H} {w : World}
def IntOk (n : Int) : Prop := (Lit.int .i64 n).wf = true
def ShortS (s : List UInt8) : Prop := s.length ≤ reachBytes
theorem reach_len : reachBytes ≤ 4611686018427387904 := by decide
def strEnc (l : List UInt8) : List Value := [str l]
theorem op_s : Opn enc Tryz.prog w 9 strEnc ShortS (fun l d => d = .lit (.string l)) := opn_str Tryz.underlying9
theorem op_i : Opn enc Tryz.prog w 3 (fun n : Int => [Value.int .i64 n]) IntOk (fun n d => d = .lit (.int .i64 n)) := opn_int Tryz.underlying3
end
end Go.Proofs.YtfcedlfeinnhoaaGreatDoor
end
section
namespace Go.Proofs.YtfcedlfeinnhoaaGreatDoor
set_option linter.unusedSimpArgs false
set_option linter.unusedVariables false
set_option maxRecDepth 20000
open Go.RowKit Go.Eng
inductive SC where
  | mk (op : Int) (A : Option Addr) (q c : Nat) (kids : List SC) (lo hi : Int) (name text : List UInt8)
def SC.op : SC → Int | .mk op _ _ _ _ _ _ _ _ => op
def SC.ad : SC → Option Addr | .mk _ A _ _ _ _ _ _ _ => A
def SC.q : SC → Nat | .mk _ _ q _ _ _ _ _ _ => q
def SC.c : SC → Nat | .mk _ _ _ c _ _ _ _ _ => c
def SC.lo : SC → Int | .mk _ _ _ _ _ lo _ _ _ => lo
def SC.hi : SC → Int | .mk _ _ _ _ _ _ hi _ _ => hi
def SC.nm : SC → List UInt8 | .mk _ _ _ _ _ _ _ n _ => n
def SC.tx : SC → List UInt8 | .mk _ _ _ _ _ _ _ _ t => t
def SC.enc (x : SC) : List Value := [.int .i64 x.op, .slice x.ad x.q x.c, .int .i64 x.lo, .int .i64 x.hi, str x.nm, str x.tx]
def SC.val (c : SC) : Value := .agg c.enc.toArray
def SC.kids : SC → List SC | .mk _ _ _ _ k _ _ _ _ => k
mutual
def SC.says : SC → PC
  | .mk op _ _ _ kids lo hi n t => .mk op (SC.saysL kids) lo hi n t
def SC.saysL : List SC → List PC
  | [] => []
  | k :: r => k.says :: SC.saysL r
end
theorem saysL_map : ∀ l : List SC, SC.saysL l = l.map SC.says
  | [] => rfl
  | k :: r => by rw [SC.saysL, saysL_map r]; rfl
theorem SC.says_mk {op lo hi : Int} {A : Option Addr} {q c : Nat} {kids : List SC} {n t : List UInt8} : (SC.mk op A q c kids lo hi n t).says = .mk op (kids.map SC.says) lo hi n t := by rw [SC.says, saysL_map]
theorem SC.says_kids (c : SC) : c.says.kids = c.kids.map SC.says := by cases c; rw [SC.says_mk]; rfl
theorem SC.enc_len (c : SC) : c.enc.length = 6 := rfl
inductive SC.Ok (w : World) : SC → Prop where
  | mk {op lo hi : Int} {A : Option Addr} {q c : Nat} {kids : List SC} {n t : List UInt8} (h : Sl.Ok SC.enc 6 w ⟨A, q, c, kids⟩) (hq : q ≤ 4611686018427387904) (hb : q * 80 ≤ 140737488355328) (hn : n.length ≤ 4611686018427387904) (ht : t.length ≤ 4611686018427387904) (hk : ∀ k ∈ kids, SC.Ok w k) : SC.Ok w (.mk op A q c kids lo hi n t)
/-- how deep it is -/
abbrev SC.dep (c : SC) : Nat := depP c.says
theorem SC.dep_kid {c k : SC} (hk : k ∈ c.kids) : k.dep < c.dep := depP_kid (by rw [SC.says_kids]; exact List.mem_map_of_mem hk)
theorem SC.ind {Q : SC → Prop} (h : ∀ c, (∀ k ∈ c.kids, Q k) → Q c) (c : SC) : Q c := by
  have key : ∀ (n : Nat) (c : SC), c.dep ≤ n → Q c := by
    intro n
    induction n with
    | zero => intro c hc; cases c; simp [SC.dep, SC.says, depP] at hc
    | succ n ih => intro c hc; exact h c fun k hk => ih k (by have := SC.dep_kid hk; omega)
  exact key _ c (Nat.le_refl _)
theorem SC.Ok.lift {w w' : World} {c : SC} (hb : Below w.heap.size w w') : c.Ok w → c.Ok w' := by
  refine SC.ind (Q := fun c => c.Ok w → c.Ok w') (fun c ih h => ?_) c
  cases h with
  | mk h1 h2 h6 h3 h4 h5 => exact .mk (h1.below hb) h2 h6 h3 h4 fun k hk => ih k hk (h5 k hk)
section
variable {H : Type} {enc : TypeId × Value → H} {w : World}
def condR (c : SC) (d : DataW H) : Prop := cntP c.says ≤ Rows.uptoBulk d
theorem bulk_all : ∀ (l : List SC) (es : List (DataW H)), es.length = l.length → (∀ (i : Nat) (a : SC) (x : DataW H), l[i]? = some a → es[i]? = some x → condR a x) → cntL (SC.saysL l) ≤ Rows.uptoBulkAll es
  | [], _, _, _ => by simp [SC.saysL, cntL]
  | a :: r, [], h, _ => by simp at h
  | a :: r, x :: xs, hl, h => by
    rw [SC.saysL, cntL, Rows.uptoBulkAll]
    have h1 := h 0 a x rfl rfl
    have h2 := bulk_all r xs (by simpa using hl) fun i b y hb hy => h (i + 1) b y (by simpa using hb) (by simpa using hy)
    have h1 : cntP a.says ≤ Rows.uptoBulk x := h1
    omega
theorem bulk_slice {s : Sl SC} {d : DataW H} (h : SlRel condR s d) : cntL (SC.saysL s.l) ≤ Rows.uptoBulk d := by
  obtain ⟨es, hd, hl, he⟩ := h
  have h1 := bulk_all s.l es hl he
  rcases hd with ⟨rfl, rfl⟩ | ⟨sp, rfl⟩
  · rw [Rows.uptoBulkAll] at h1; omega
  · rw [Rows.uptoBulk]; omega
theorem op_condN : ∀ N, OpnN N enc Tryz.prog w 24 SC.enc (SC.Ok w) (condR (H := H)) := by
  intro N
  induction N using Nat.strongRecOn with
  | _ N ih =>
    cases N with
    | zero => exact OpnN.zero
    | succ N =>
      have hk : OpnN N enc Tryz.prog w 22 (fun s : Sl SC => [.slice s.A s.q s.c]) (fun s => s.Ok SC.enc 6 w ∧ s.q ≤ reachBytes ∧ s.q * Tryz.prog.bytesOf 24 ≤ reachBytes ∧ ∀ a ∈ s.l, a.Ok w) (SlRel (condR (H := H))) := by
        cases N with
        | zero => exact OpnN.zero
        | succ M => exact opnN_slice Tryz.underlying22 co24 (by decide) (by rw [bo24]; decide) SC.enc_len (ih M (by omega))
      refine (opnN_struct Tryz.underlying24 co24 (opfN_cons op_i.n rfl co3 (opfN_cons hk rfl co22 (opfN_cons op_i.n rfl co3 (opfN_cons op_i.n rfl co3 (opfN_cons op_s.n rfl co9 (opfN_cons op_s.n rfl co9 opfN_nil))))))).map
        (fun p => SC.mk p.1 p.2.1.A p.2.1.q p.2.1.c p.2.1.l p.2.2.1 p.2.2.2.1 p.2.2.2.2.1 p.2.2.2.2.2.1) (fun _ => rfl) ?_ ?_
      · rintro p ⟨_, ⟨h2, h3, h4, h5⟩, _, _, h6, h7, _⟩
        rw [bo24] at h4
        exact .mk h2 (Nat.le_trans h3 reach_len) (Nat.le_trans h4 (by decide)) (Nat.le_trans h6 reach_len) (Nat.le_trans h7 reach_len) h5
      · rintro p d _ ⟨ds, rfl, d1, r1, rfl, _, d2, r2, rfl, h2, _⟩
        show cntP (SC.mk _ _ _ _ _ _ _ _ _).says ≤ _
        rw [SC.says, cntP, Rows.uptoBulk, Rows.uptoBulkAll, Rows.uptoBulkAll]
        have := bulk_slice h2
        omega
theorem op_cond : Opn enc Tryz.prog w 24 SC.enc (SC.Ok w) (condR (H := H)) := OpnN.all op_condN
end
end Go.Proofs.YtfcedlfeinnhoaaGreatDoor
end
section
namespace Go.Proofs.YtfcedlfeinnhoaaGreatDoor
set_option linter.unusedSimpArgs false
set_option linter.unusedVariables false
set_option maxRecDepth 20000
open Go.RowKit Go.Eng
theorem TrimName_any (s : List UInt8) (hs : s.length ≤ 1000) (w : World) :
    Calls Tryz.prog 37 #[str s, str nameBs] w fun e w' => e = .returned (str (Lib.trimS s nameBs)) ∧ Below w.heap.size w w' :=
  Any.strings_Trim_laid Tryz.lays160 (by kernel_rfl) ⟨s.toArray⟩ ⟨nameBs.toArray⟩ w (by rw [Lib.size_eq]; simp; omega) (by decide) (ascii_of_all (by decide))
theorem IsName_any (s : List UInt8) (w : World) :
    Calls Tryz.prog 65 #[str s] w fun e w' => e = .returned (.bool (nameOk s)) ∧ Below w.heap.size w w' := by
  refine enter_args (args := [str s]) (F := _) Tryz.func65 rfl Tryz.ntmps65 rfl rfl ?_
  intro Rb hRb hRn
  refine tx ?_
  refine sr 1 ?_
  refine sgs ?_
  refine tx ?_
  refine sr 1 ?_
  refine s1 (y_len_str rfl rfl Tryz.underlying9) ?_
  refine sr 2 ?_
  refine sg rfl (y_move rfl rfl) ?_
  refine sg rfl (y_len_str rfl rfl Tryz.underlying9) ?_
  refine sg rfl (y_bin rfl rfl rfl (fun _ => b_gtr)) ?_
  refine s1 (y_or rfl rfl rfl) ?_
  refine sr 1 ?_
  refine sg rfl (y_move rfl rfl) ?_
  refine sg rfl (y_index_str (j := 0) rfl rfl rfl Tryz.underlying9 (fun hg => List.length_pos_iff.2 (fun e => by subst e; simp at hg))) ?_
  refine sg rfl (y_bin rfl rfl rfl (fun _ => b_lss)) ?_
  refine s1 (y_or rfl rfl rfl) ?_
  refine sr 1 ?_
  refine sg rfl (y_move rfl rfl) ?_
  refine sg rfl (y_index_str (j := 0) rfl rfl rfl Tryz.underlying9 (fun hg => List.length_pos_iff.2 (fun e => by subst e; simp at hg))) ?_
  refine sg rfl (y_bin rfl rfl rfl (fun _ => b_gtr)) ?_
  refine s1 (y_or rfl rfl rfl) ?_
  refine sgo ?_
  refine T_cond rfl ?_ ?_ <;> intro h20
  · skip
    refine tx ?_
    refine sr 1 ?_
    refine sgo ?_
    refine tr1 hRb fun w hM => ?_
    exact ⟨by rw [name_t h20], hM.below⟩
  have hn := name_f h20
  have hl := hn.1
  refine kgx ?_
  refine sr 1 ?_
  refine s1 (y_call rfl rfl rfl cf37 (fun _ w _ => TrimName_any s (by omega) w)) ?_
  refine s1 (y_bin rfl rfl rfl (fun _ => b_eqls)) ?_
  refine sr 1 ?_
  refine sgo ?_
  refine tr1 hRb fun w hM => ?_
  exact ⟨by rw [← hn.2], hM.below⟩
end Go.Proofs.YtfcedlfeinnhoaaGreatDoor
end
section
namespace Go.Proofs.YtfcedlfeinnhoaaGreatDoor
set_option linter.unusedSimpArgs false
set_option linter.unusedVariables false
set_option maxRecDepth 20000
open Go.RowKit Go.Eng
def fndP {α : Type} (p : α → Bool) : List α → Nat → Int
  | [], _ => -1
  | a :: r, i => if p a = true then (i : Int) else fndP p r (i + 1)
theorem fndP_any {α : Type} (p : α → Bool) : ∀ (l : List α) (i : Nat), decide (0 ≤ fndP p l i) = l.any p
  | [], i => rfl
  | a :: r, i => by
    rw [fndP, List.any_cons]
    cases h : p a with
    | true => rw [if_pos rfl, Bool.true_or]; exact decide_eq_true (by omega)
    | false => rw [if_neg Bool.false_ne_true, fndP_any p r, Bool.false_or]
theorem IndexFC_any (A : Option Addr) (q c : Nat) (l : List SC) (g : FuncId) (cap : Array Value) (p : SC → Bool) (w : World) (hl : SlT SC.enc 6 w A q l) (hq : q ≤ 4611686018427387904) (hcf : ∀ args w, (callFunc g args).run Tryz.prog w = .ok (.enter g args) w)
    (hA : ∀ x ∈ l, ∀ w', Below w.heap.size w w' → Calls Tryz.prog g (#[x.val] ++ cap) w' fun e w'' => e = .returned (.bool (p x)) ∧ Below w'.heap.size w' w'') :
    Calls Tryz.prog 86 #[.slice A q c, .func (.func g) #[] cap] w fun e w' => e = .returned (.int .i64 (fndP p l 0)) ∧ Below w.heap.size w w' := by
  refine enter_args (args := [.slice A q c, .func (.func g) #[] cap]) (F := _) Tryz.func86 rfl Tryz.ntmps86 rfl rfl ?_
  intro Rb hRb hRn
  refine tx ?_
  refine sr 1 ?_
  refine sgs ?_
  refine tx ?_
  refine sr 1 ?_
  refine s1 (y_len_slice rfl rfl Tryz.underlying22) ?_
  refine sr 1 ?_
  refine sgo ?_
  refine T_block ?_
  refine lK1 (kf := [(4, 5), (8, 18)]) (kl := [(4, 5), (8, 18)]) (fun (i : Nat) => [(8, true, .int .i64 (i : Int))]) (fun (i : Nat) => []) (fun (i : Nat) => i ≤ q ∧ fndP p l 0 = fndP p (l.drop i) i) (fun (i : Nat) => q - i) 0 ?_ ?_ ?_ ?_
  · exact ⟨by omega, rfl⟩
  · exact ⟨rfl, trivial⟩
  · exact trivial
  rintro i ⟨hp1, hp2⟩
  refine tx ?_
  refine sr 1 ?_
  refine sgs ?_
  refine T_cond rfl ?_ ?_ <;> intro h9
  · try simp only [nrm] at h9
    obtain ⟨x, hx1, hx2⟩ := hl.at (i := i) (by omega)
    refine kgs ?_
    refine T_block ?_
    refine tx ?_
    refine sr 2 ?_
    refine sgx ?_
    refine sr 3 ?_
    refine s1 (y_indexAddr rfl rfl rfl Tryz.underlying22 sz24 (fun hg => hl.isSome (by omega)) (fun _ => by omega)) ?_
    refine s1 (y_loadT rfl rfl hl (fun _ => rfl) (fun _ => hx1) Tryz.underlying24 rfl sz24) ?_
    refine s1 (y_call rfl rfl rfl hcf (fun _ w hM => hA x (mem_at hx1) w hM.below)) ?_
    refine sgo ?_
    refine T_cond rfl ?_ ?_ <;> intro h16
    · skip
      refine tx ?_
      refine sr 2 ?_
      refine sgo ?_
      refine tr1 hRb fun w hM => ?_
      exact ⟨by rw [hp2, hx2, fndP, if_pos h16], hM.below⟩
    refine kgr ?_
    refine s1 (y_bin rfl rfl rfl (fun hg => b_add (by omega))) ?_
    refine sr 1 ?_
    refine S_nil (nK1 (kf := [(4, 5), (8, 18)]) (kl := [(4, 5), (8, 18)]) (i + 1) ?_ ?_ ?_ ?_)
    · omega
    · exact ⟨by omega, by rw [hp2, hx2, fndP, if_neg (by simp [h16])]⟩
    · exact ⟨rfl, trivial⟩
    · exact trivial
  try simp only [nrm] at h9
  refine egx ?_
  refine sr 1 ?_
  refine sgo ?_
  refine tr1 hRb fun w hM => ?_
  exact ⟨by rw [hp2, hl.end (by omega)]; rfl, hM.below⟩
theorem ContFC_any (A : Option Addr) (q c : Nat) (l : List SC) (g : FuncId) (cap : Array Value) (p : SC → Bool) (w : World) (hl : SlT SC.enc 6 w A q l) (hq : q ≤ 4611686018427387904) (hcf : ∀ args w, (callFunc g args).run Tryz.prog w = .ok (.enter g args) w)
    (hA : ∀ x ∈ l, ∀ w', Below w.heap.size w w' → Calls Tryz.prog g (#[x.val] ++ cap) w' fun e w'' => e = .returned (.bool (p x)) ∧ Below w'.heap.size w' w'') :
    Calls Tryz.prog 45 #[.slice A q c, .func (.func g) #[] cap] w fun e w' => e = .returned (.bool (l.any p)) ∧ Below w.heap.size w w' := by
  rw [← fndP_any p l 0]
  refine enter_args (args := [.slice A q c, .func (.func g) #[] cap]) (F := _) Tryz.func45 rfl Tryz.ntmps45 rfl rfl ?_
  intro Rb hRb hRn
  refine tx ?_
  refine sr 1 ?_
  refine sgx ?_
  refine sr 2 ?_
  refine s1 (y_call rfl rfl rfl cf86 (fun _ w hM => IndexFC_any A q c l g cap p w (hl.below hM.below) hq hcf fun x hx w1 hb => hA x hx w1 (hM.below.trans (hb.mono hM.below.size)))) ?_
  refine sr 2 ?_
  refine sgo ?_
  refine tr1 hRb fun w hM => ?_
  exact ⟨rfl, hM.below⟩
theorem cellK {w w' : World} {b off : Nat} {v : Value} (h : w.cell? ⟨b, off, none⟩ = some v ∧ b < w.heap.size) (hb : Below w.heap.size w w') : w'.cell? ⟨b, off, none⟩ = some v ∧ b < w'.heap.size :=
  ⟨by rw [World.cell?, hb.block _ h.2]; exact h.1, Nat.lt_of_lt_of_le h.2 hb.size⟩
theorem SC.Ok.parts {x : SC} {w : World} (h : x.Ok w) : Sl.Ok SC.enc 6 w ⟨x.ad, x.q, x.c, x.kids⟩ ∧ x.q ≤ 4611686018427387904 ∧ x.q * 80 ≤ 140737488355328 ∧ x.nm.length ≤ 4611686018427387904 ∧ x.tx.length ≤ 4611686018427387904 ∧ ∀ k ∈ x.kids, k.Ok w := by
  cases h with
  | mk h1 h2 h3 h4 h5 h6 => exact ⟨h1, h2, h3, h4, h5, h6⟩
def DeepAt (m : Nat) : Prop := ∀ (x : SC) (w : World), x.Ok w → Calls Tryz.prog 32 #[x.val, .int .i64 (m : Int)] w fun e w' => e = .returned (.bool (deepP m x.says)) ∧ Below w.heap.size w w'
theorem deep1_any (m : Nat) (hm : m ≤ 1000000) (ih : DeepAt m) (x : SC) (b : Nat) (w : World) (hk : x.Ok w) (hc : w.cell? ⟨b, 0, none⟩ = some (.int .i64 ((m + 1 : Nat) : Int)) ∧ b < w.heap.size) :
    Calls Tryz.prog 59 #[x.val, .pointer (some ⟨b, 0, none⟩)] w fun e w' => e = .returned (.bool (deepP m x.says)) ∧ Below w.heap.size w w' := by
  refine enter_args (args := [.agg #[.int .i64 x.op, .slice x.ad x.q x.c, .int .i64 x.lo, .int .i64 x.hi, str x.nm, str x.tx], .pointer (some ⟨b, 0, none⟩)]) (F := _) Tryz.func59 rfl Tryz.ntmps59 rfl rfl ?_
  intro Rb hRb hRn
  refine tx ?_
  refine S_box 2 2 rfl rfl rfl rfl rfl ?_
  intro b2
  refine sr 1 ?_
  refine sgx ?_
  refine s1 (yA 2 rfl Tryz.underlying24 sz24) ?_
  refine s1 (y_load_far rfl rfl hc.1 hc.2 Tryz.underlying3 rfl) ?_
  refine s1 (y_bin rfl rfl rfl (fun hg => b_subv (((m : Nat) : Int)) (by omega) (by omega))) ?_
  refine s1 (y_call rfl rfl rfl cf32 (fun _ w1 hM => ih x w1 (hk.lift hM.below))) ?_
  refine sr 1 ?_
  refine sgo ?_
  refine tr1 hRb fun w hM => ?_
  exact ⟨rfl, hM.below⟩
theorem deep_step (m : Nat) (hm : m + 1 ≤ 1000000) (ih : DeepAt m) : DeepAt (m + 1) := fun x w hok => by
  obtain ⟨hs, hq, hb, hn, ht, hk⟩ := hok.parts
  have e : deepP (m + 1) x.says = x.kids.any fun k => deepP m k.says := by rw [deepP, SC.says_kids, List.any_map]; rfl
  rw [e]
  refine enter_args (args := [.agg #[.int .i64 x.op, .slice x.ad x.q x.c, .int .i64 x.lo, .int .i64 x.hi, str x.nm, str x.tx], .int .i64 ((m + 1 : Nat) : Int)]) (F := _) Tryz.func32 rfl Tryz.ntmps32 rfl rfl ?_
  intro Rb hRb hRn
  refine tx ?_
  refine S_box 2 2 rfl rfl rfl rfl rfl ?_
  intro b2
  refine S_box 3 3 rfl rfl rfl rfl rfl ?_
  intro b3
  refine sr 1 ?_
  refine sgs ?_
  refine tx ?_
  refine s1 (yL 3 Tryz.underlying3) ?_
  refine sr 1 ?_
  refine sgo ?_
  refine T_cond rfl ?_ ?_ <;> intro h6
  · skip
    have : ((m + 1 : Nat) : Int) = 0 := by simpa using h6
    omega
  refine kgx ?_
  refine s1 (yF fa24_1) ?_
  refine s1 (yL 2 Tryz.underlying22) ?_
  refine s1 (y_makeFunc rfl rfl rfl rfl rfl) ?_
  refine s1 (y_call rfl rfl rfl cf45 (fun _ w1 hM => ContFC_any x.ad x.q x.c x.kids 59 _ (fun k => deepP m k.says) w1 (hs.t.below hM.below) hq cf59 (fun k hkm w2 hb2 => deep1_any m (by omega) ih k b3 w2 ((hk k hkm).lift (hM.below.trans (hb2.mono hM.below.size))) (cellK (hM.box_cell (i := 3) rfl rfl) hb2)))) ?_
  refine sr 1 ?_
  refine sgo ?_
  refine tr1 hRb fun w hM => ?_
  exact ⟨rfl, hM.below⟩
theorem deep_zero : DeepAt 0 := fun x w hok => by
  refine enter_args (args := [.agg #[.int .i64 x.op, .slice x.ad x.q x.c, .int .i64 x.lo, .int .i64 x.hi, str x.nm, str x.tx], .int .i64 ((0 : Nat) : Int)]) (F := _) Tryz.func32 rfl Tryz.ntmps32 rfl rfl ?_
  intro Rb hRb hRn
  refine tx ?_
  refine S_box 2 2 rfl rfl rfl rfl rfl ?_
  intro b2
  refine S_box 3 3 rfl rfl rfl rfl rfl ?_
  intro b3
  refine sr 1 ?_
  refine sgs ?_
  refine tx ?_
  refine s1 (yL 3 Tryz.underlying3) ?_
  refine sr 1 ?_
  refine sgo ?_
  refine T_cond rfl ?_ ?_ <;> intro h6
  · skip
    refine tx ?_
    refine sr 1 ?_
    refine sgo ?_
    refine tr1 hRb fun w hM => ?_
    exact ⟨rfl, hM.below⟩
  cases h6
theorem tooDeep_any : ∀ m : Nat, m ≤ 1000000 → DeepAt m
  | 0, _ => deep_zero
  | m + 1, h => deep_step m h (tooDeep_any m (by omega))
end Go.Proofs.YtfcedlfeinnhoaaGreatDoor
end
section
namespace Go.Proofs.YtfcedlfeinnhoaaGreatDoor
set_option linter.unusedSimpArgs false
set_option linter.unusedVariables false
set_option maxRecDepth 20000
open Go.RowKit Go.Eng
theorem SC.says_form (x : SC) : x.says = .mk x.op (x.kids.map SC.says) x.lo x.hi x.nm x.tx := by cases x; rw [SC.says_mk]; rfl
def SizeAt (x : SC) : Prop := ∀ (most : Int) (w : World), 0 ≤ most → most ≤ 1000000 → x.Ok w → Calls Tryz.prog 33 #[x.val, .int .i64 most] w fun e w' => e = .returned (.int .i64 (sizeP x.says most)) ∧ Below w.heap.size w w'
theorem size_step (x : SC) (ih : ∀ k ∈ x.kids, SizeAt k) : SizeAt x := fun most w hm0 hm1 hok => by
  obtain ⟨hs, hq, hb, hn, ht, hk⟩ := hok.parts
  have hl : SlT SC.enc 6 w x.ad x.q x.kids := hs.t
  rw [SC.says_form, sizeP]
  refine enter_args (args := [.agg #[.int .i64 x.op, .slice x.ad x.q x.c, .int .i64 x.lo, .int .i64 x.hi, str x.nm, str x.tx], .int .i64 most]) (F := _) Tryz.func33 rfl Tryz.ntmps33 rfl rfl ?_
  intro Rb hRb hRn
  refine tx ?_
  refine S_box 2 2 rfl rfl rfl rfl rfl ?_
  intro b2
  refine sr 1 ?_
  refine sgx ?_
  refine sr 1 ?_
  refine sgs ?_
  refine tx ?_
  refine s1 (yF fa24_1) ?_
  refine s1 (yL 2 Tryz.underlying22) ?_
  refine s1 (y_len_slice rfl rfl Tryz.underlying22) ?_
  refine sr 1 ?_
  refine sgo ?_
  refine T_block ?_
  refine lK2 (kf := [(5, 5), (7, 7), (11, 25)]) (kl := [(5, 5), (7, 7), (11, 25)]) (fun (i : Nat) (n : Int) => [(11, true, .int .i64 (i : Int)), (5, true, .int .i64 n)]) (fun (i : Nat) (n : Int) => []) (fun (i : Nat) (n : Int) => i ≤ x.q ∧ sizeL ((x.kids.drop i).map SC.says) n most = sizeL (x.kids.map SC.says) 1 most ∧ 1 ≤ n ∧ n ≤ most + 1) (fun (i : Nat) (n : Int) => x.q - i) 0 1 ?_ ?_ ?_ ?_
  · exact ⟨by omega, rfl, by omega, by omega⟩
  · exact ⟨rfl, rfl, trivial⟩
  · exact trivial
  rintro i n ⟨hp1, hp2, hp3, hp4⟩
  refine tx ?_
  refine sr 1 ?_
  refine sgs ?_
  refine T_cond rfl ?_ ?_ <;> intro h12
  · try simp only [nrm] at h12
    obtain ⟨k, hx1, hx2⟩ := hl.at (i := i) (by omega)
    rw [hx2, List.map_cons, sizeL] at hp2
    refine kgs ?_
    refine T_block ?_
    refine tx ?_
    refine s1 (y_indexAddr rfl rfl rfl Tryz.underlying22 sz24 (fun hg => hl.isSome (by omega)) (fun _ => by omega)) ?_
    refine s1 (y_loadT rfl rfl hl (fun _ => rfl) (fun _ => hx1) Tryz.underlying24 rfl sz24) ?_
    refine S_alloc 7 7 rfl rfl rfl rfl z24 ?_
    intro b7
    refine S_store 7 rfl rfl rfl rfl rfl rfl sz24 rfl rfl ?_
    refine sgs ?_
    refine tx ?_
    refine sr 3 ?_
    refine sgo ?_
    refine T_cond rfl ?_ ?_ <;> intro h17
    · try simp only [nrm] at h17
      have h17 : most < n := by omega
      rw [if_pos h17] at hp2
      refine egx ?_
      refine sr 2 ?_
      refine sgo ?_
      refine tr1 hRb fun w hM => ?_
      exact ⟨by rw [← hp2], hM.below⟩
    try simp only [nrm] at h17
    have h17 : ¬ most < n := by omega
    rw [if_neg h17] at hp2
    have hz := sizeP_eq k.says (most - n) (by omega)
    have hc := cntP_pos k.says
    refine kgr ?_
    refine sr 1 ?_
    refine s1 (yA 7 rfl Tryz.underlying24 sz24) ?_
    refine sr 2 ?_
    refine s1 (y_bin rfl rfl rfl (fun hg => b_sub (by omega))) ?_
    refine s1 (y_call rfl rfl rfl cf33 (fun _ w1 hM => ih k (mem_at hx1) (most - n) w1 (by omega) (by omega) ((hk k (mem_at hx1)).lift hM.below))) ?_
    refine s1 (y_bin rfl rfl rfl (fun hg => b_add (by omega))) ?_
    refine sr 1 ?_
    refine sgr ?_
    refine s1 (y_bin rfl rfl rfl (fun hg => b_add (by omega))) ?_
    refine sr 1 ?_
    refine S_nil (nK2 (kf := [(5, 5), (7, 7), (11, 25)]) (kl := [(5, 5), (7, 7), (11, 25)]) (i + 1) (n + sizeP k.says (most - n)) ?_ ?_ ?_ ?_)
    · omega
    · exact ⟨by omega, hp2, by omega, by omega⟩
    · exact ⟨rfl, rfl, trivial⟩
    · exact trivial
  try simp only [nrm] at h12
  refine egx ?_
  refine sr 2 ?_
  refine sgo ?_
  refine tr1 hRb fun w hM => ?_
  exact ⟨by rw [← hp2, hl.end (by omega)]; rfl, hM.below⟩
theorem size_any (x : SC) : SizeAt x := SC.ind (Q := SizeAt) size_step x
def badC (c : UInt8) : Bool := decide (((c.toNat : Nat) : Int) < 32) || decide ((126 : Int) < ((c.toNat : Nat) : Int))
def txtNo (s : List UInt8) : Int := if s = [] then 1 else if (200 : Int) < s.length then 4 else if s.any badC = true then 9 else 0
theorem drD {p : List UInt8} {i : Nat} (h : i < p.length) : p.drop i = p.getD i 0 :: p.drop (i + 1) := by
  rw [List.drop_eq_getElem_cons h, List.getD_eq_getElem?_getD, List.getElem?_eq_getElem h]; rfl
theorem checkText_any (s : List UInt8) (w : World) :
    Calls Tryz.prog 66 #[str s] w fun e w' => e = .returned (.int .i64 (txtNo s)) ∧ Below w.heap.size w w' := by
  refine enter_args (args := [str s]) (F := _) Tryz.func66 rfl Tryz.ntmps66 rfl rfl ?_
  intro Rb hRb hRn
  refine tx ?_
  refine sr 1 ?_
  refine sgs ?_
  refine T_block ?_
  refine tx ?_
  refine sr 1 ?_
  refine s1 (y_bin rfl rfl rfl (fun _ => b_eqls)) ?_
  refine sr 1 ?_
  refine sgo ?_
  refine T_cond rfl ?_ ?_ <;> intro h4
  · skip
    have h4 : s = [] := by simpa using h4
    have e1 : txtNo s = 1 := if_pos h4
    refine tx ?_
    refine sr 1 ?_
    refine sgo ?_
    refine tr1 hRb fun w hM => ?_
    exact ⟨by rw [e1], hM.below⟩
  have h4 : ¬ s = [] := by simpa using h4
  refine tx ?_
  refine sr 1 ?_
  refine s1 (y_len_str rfl rfl Tryz.underlying9) ?_
  refine sr 2 ?_
  refine sgo ?_
  refine T_cond rfl ?_ ?_ <;> intro h7
  · skip
    have h7 : (200 : Int) < s.length := by simpa using h7
    have e1 : txtNo s = 4 := by rw [txtNo, if_neg h4, if_pos h7]
    refine tx ?_
    refine sr 1 ?_
    refine sgo ?_
    refine tr1 hRb fun w hM => ?_
    exact ⟨by rw [e1], hM.below⟩
  have h7 : ¬ (200 : Int) < s.length := by simpa using h7
  refine kgs ?_
  refine tx ?_
  refine sr 1 ?_
  refine s1 (y_len_str rfl rfl Tryz.underlying9) ?_
  refine sr 1 ?_
  refine sgo ?_
  refine T_block ?_
  refine lK1 (kf := [(2, 3), (13, 26)]) (kl := [(2, 3), (13, 26)]) (fun (i : Nat) => [(13, true, .int .i64 (i : Int))]) (fun (i : Nat) => []) (fun (i : Nat) => i ≤ s.length ∧ (s.drop i).any badC = s.any badC) (fun (i : Nat) => s.length - i) 0 ?_ ?_ ?_ ?_
  · exact ⟨by omega, rfl⟩
  · exact ⟨rfl, trivial⟩
  · exact trivial
  rintro i ⟨hp1, hp2⟩
  refine tx ?_
  refine sr 1 ?_
  refine sgs ?_
  refine T_cond rfl ?_ ?_ <;> intro h14
  · try simp only [nrm] at h14
    have hd := drD (p := s) (i := i) (by omega)
    rw [hd, List.any_cons] at hp2
    refine kgs ?_
    refine T_block ?_
    refine tx ?_
    refine sr 2 ?_
    refine sgx ?_
    refine sr 2 ?_
    refine s1 (y_index_str rfl rfl rfl Tryz.underlying9 (fun _ => by omega)) ?_
    refine sr 2 ?_
    refine sg rfl (y_move rfl rfl) ?_
    refine sg rfl (y_move rfl rfl) ?_
    refine sg rfl (y_index_str rfl rfl rfl Tryz.underlying9 (fun hg => by simp only [Bool.true_and, Bool.and_eq_true, beq_iff_eq, decide_eq_true_eq, decide_eq_false_iff_not, Int.not_lt, Int.not_le] at hg; omega)) ?_
    refine sg rfl (y_bin rfl rfl rfl (fun _ => b_gtr)) ?_
    refine s1 (y_as (v' := .bool (badC (s.getD i 0))) (by exact rfl) (y_or rfl rfl rfl)) ?_
    refine sgo ?_
    refine T_cond rfl ?_ ?_ <;> intro h25
    · skip
      rw [h25, Bool.true_or] at hp2
      have e1 : txtNo s = 9 := by rw [txtNo, if_neg h4, if_neg h7, if_pos hp2.symm]
      refine tx ?_
      refine sr 1 ?_
      refine sgo ?_
      refine tr1 hRb fun w hM => ?_
      exact ⟨by rw [e1], hM.below⟩
    rw [h25, Bool.false_or] at hp2
    refine kgr ?_
    refine s1 (y_bin rfl rfl rfl (fun hg => b_add (by omega))) ?_
    refine sr 1 ?_
    refine S_nil (nK1 (kf := [(2, 3), (13, 26)]) (kl := [(2, 3), (13, 26)]) (i + 1) ?_ ?_ ?_ ?_)
    · omega
    · exact ⟨by omega, hp2⟩
    · exact ⟨rfl, trivial⟩
    · exact trivial
  try simp only [nrm] at h14
  refine egx ?_
  refine sr 1 ?_
  refine sgo ?_
  refine tr1 hRb fun w hM => ?_
  have e1 : s.any badC = false := by rw [← hp2, List.drop_eq_nil_of_le (by omega)]; rfl
  exact ⟨by rw [txtNo, if_neg h4, if_neg h7, if_neg (by rw [e1]; simp)], hM.below⟩
theorem groups_any (op : Int) (w : World) : Calls Tryz.prog 61 #[.int .i64 op] w fun e w' => e = .returned (.bool (grpB op)) ∧ Below w.heap.size w w' := by
  refine enter_args (args := [.int .i64 op]) (F := _) Tryz.func61 rfl Tryz.ntmps61 rfl rfl ?_
  intro Rb hRb hRn
  refine tx ?_
  refine sr 1 ?_
  refine sgx ?_
  refine sr 3 ?_
  refine sgo ?_
  refine tr1 hRb fun w hM => ?_
  exact ⟨rfl, hM.below⟩
theorem ranges_any (op : Int) (w : World) : Calls Tryz.prog 62 #[.int .i64 op] w fun e w' => e = .returned (.bool (rngB op)) ∧ Below w.heap.size w w' := by
  refine enter_args (args := [.int .i64 op]) (F := _) Tryz.func62 rfl Tryz.ntmps62 rfl rfl ?_
  intro Rb hRb hRn
  refine tx ?_
  refine sr 1 ?_
  refine sgx ?_
  refine sr 3 ?_
  refine sg rfl (y_move rfl rfl) ?_
  refine sg rfl (y_bin rfl rfl rfl (fun _ => b_leq)) ?_
  refine s1 (y_and rfl rfl rfl) ?_
  refine sr 1 ?_
  refine sgo ?_
  refine tr1 hRb fun w hM => ?_
  exact ⟨rfl, hM.below⟩
theorem named_any (op : Int) (w : World) : Calls Tryz.prog 63 #[.int .i64 op] w fun e w' => e = .returned (.bool (nmdB op)) ∧ Below w.heap.size w w' := by
  refine enter_args (args := [.int .i64 op]) (F := _) Tryz.func63 rfl Tryz.ntmps63 rfl rfl ?_
  intro Rb hRb hRn
  refine tx ?_
  refine sr 1 ?_
  refine sgx ?_
  refine sr 3 ?_
  refine sg rfl (y_move rfl rfl) ?_
  refine sg rfl (y_bin rfl rfl rfl (fun _ => b_eql)) ?_
  refine s1 (y_or rfl rfl rfl) ?_
  refine sr 1 ?_
  refine sgo ?_
  refine tr1 hRb fun w hM => ?_
  exact ⟨rfl, hM.below⟩
theorem worded_any (op : Int) (w : World) : Calls Tryz.prog 64 #[.int .i64 op] w fun e w' => e = .returned (.bool (wrdB op)) ∧ Below w.heap.size w w' := by
  refine enter_args (args := [.int .i64 op]) (F := _) Tryz.func64 rfl Tryz.ntmps64 rfl rfl ?_
  intro Rb hRb hRn
  refine tx ?_
  refine sr 1 ?_
  refine sgx ?_
  refine sr 3 ?_
  refine sg rfl (y_move rfl rfl) ?_
  refine sg rfl (y_bin rfl rfl rfl (fun _ => b_geq)) ?_
  refine s1 (y_or rfl rfl rfl) ?_
  refine sr 1 ?_
  refine sgo ?_
  refine tr1 hRb fun w hM => ?_
  exact ⟨rfl, hM.below⟩
theorem fout_any (n lo hi : Int) (w : World) : Calls Tryz.prog 60 #[.int .i64 n, .int .i64 lo, .int .i64 hi] w fun e w' => e = .returned (.bool (!inB n lo hi)) ∧ Below w.heap.size w w' := by
  refine enter_args (args := [.int .i64 n, .int .i64 lo, .int .i64 hi]) (F := _) Tryz.func60 rfl Tryz.ntmps60 rfl rfl ?_
  intro Rb hRb hRn
  refine tx ?_
  refine sr 1 ?_
  refine sgx ?_
  refine sr 4 ?_
  refine sg rfl (y_move rfl rfl) ?_
  refine sg rfl (y_move rfl rfl) ?_
  refine sg rfl (y_bin rfl rfl rfl (fun _ => b_gtr)) ?_
  refine s1 (y_or rfl rfl rfl) ?_
  refine sr 1 ?_
  refine sgo ?_
  refine tr1 hRb fun w hM => ?_
  exact ⟨by rw [inB, Bool.not_not], hM.below⟩
end Go.Proofs.YtfcedlfeinnhoaaGreatDoor
end
section
namespace Go.Proofs.YtfcedlfeinnhoaaGreatDoor
set_option linter.unusedSimpArgs false
set_option linter.unusedVariables false
set_option maxRecDepth 20000
open Go.RowKit Go.Eng
abbrev hdX (x : SC) : Int := chdNo txtNo nameOk x.op x.kids.length x.lo x.hi x.nm x.tx
def f1B (x : SC) : Bool := (decide (0 < x.kids.length) && !grpB x.op || ((!decide (x.lo = 0) || !decide (x.hi = 0)) && !rngB x.op) || (!decide (x.nm = []) && !nmdB x.op) || (!decide (x.tx = []) && !wrdB x.op))
def f2B (x : SC) : Bool := ((decide (x.op = 1) || decide (x.op = 2)) && decide (x.kids.length < 2) || decide (x.op = 3) && !decide (x.kids.length = 1))
def r1B (x : SC) : Bool := !inB x.lo (loR x.op) (hiR x.op) || !inB x.hi (loR x.op) (hiR x.op)
theorem hd_def (x : SC) : hdX x = if inB x.op 1 14 = false then 10 else if f1B x = true then 1 else if f2B x = true then 1 else if (rngB x.op && r1B x) = true then 2 else if (rngB x.op && decide (x.hi < x.lo)) = true then 5 else if (nmdB x.op && !nameOk x.nm) = true then 3 else if wrdB x.op = true then txtNo x.tx else 0 := rfl
abbrev chX (x : SC) : Int := chkP (chdNo txtNo nameOk) x.says
theorem chX_def (x : SC) : chX x = if hdX x ≠ 0 then hdX x else chkL (chdNo txtNo nameOk) (x.kids.map SC.says) := by
  show chkP _ x.says = _
  rw [SC.says_form, chkP, List.length_map]
theorem chX_hd {x : SC} {n : Int} (h : hdX x = n) (hn : n ≠ 0) : chX x = n := by rw [chX_def, h, if_pos hn]
theorem chX_kids {x : SC} (h : hdX x = 0) : chX x = chkL (chdNo txtNo nameOk) (x.kids.map SC.says) := by rw [chX_def, h, if_neg (by simp)]
def OneAt (x : SC) : Prop := ∀ w : World, x.Ok w → Calls Tryz.prog 34 #[x.val] w fun e w' => e = .returned (.int .i64 (chX x)) ∧ Below w.heap.size w w'
theorem hd_rest {x : SC} (h1 : inB x.op 1 14 = true) (h2 : f1B x = false) (h3 : f2B x = false) : hdX x = if (rngB x.op && r1B x) = true then 2 else if (rngB x.op && decide (x.hi < x.lo)) = true then 5 else if (nmdB x.op && !nameOk x.nm) = true then 3 else if wrdB x.op = true then txtNo x.tx else 0 := by
  rw [hd_def, if_neg (by rw [h1]; simp), if_neg (by rw [h2]; simp), if_neg (by rw [h3]; simp)]
theorem hd_late {x : SC} (h : hdX x = if (rngB x.op && r1B x) = true then 2 else if (rngB x.op && decide (x.hi < x.lo)) = true then 5 else if (nmdB x.op && !nameOk x.nm) = true then 3 else if wrdB x.op = true then txtNo x.tx else 0) (h1 : (rngB x.op && r1B x) = false) (h2 : (rngB x.op && decide (x.hi < x.lo)) = false) : hdX x = if (nmdB x.op && !nameOk x.nm) = true then 3 else if wrdB x.op = true then txtNo x.tx else 0 := by
  rw [h, if_neg (by rw [h1]; simp), if_neg (by rw [h2]; simp)]
set_option maxHeartbeats 3200000 in
theorem one_step (x : SC) (ih : ∀ k ∈ x.kids, OneAt k) : OneAt x := fun w hok => by
  obtain ⟨hs, hq, hb, hn, ht, hk⟩ := hok.parts
  have hl : SlT SC.enc 6 w x.ad x.q x.kids := hs.t
  have hlen := hl.len
  refine enter_args (args := [.agg #[.int .i64 x.op, .slice x.ad x.q x.c, .int .i64 x.lo, .int .i64 x.hi, str x.nm, str x.tx]]) (F := _) Tryz.func34 rfl Tryz.ntmps34 rfl rfl ?_
  intro Rb hRb hRn
  refine tx ?_
  refine S_box 1 1 rfl rfl rfl rfl rfl ?_
  intro b1
  refine sr 1 ?_
  refine sgs ?_
  refine tx ?_
  refine s1 (yF fa24_0) ?_
  refine s1 (yL 1 Tryz.underlying3) ?_
  refine s1 (y_call rfl rfl rfl cf60 (fun _ w _ => fout_any _ _ _ w)) ?_
  refine sgo ?_
  refine T_cond rfl ?_ ?_ <;> intro h11
  · skip
    have hi1 : inB x.op 1 14 = false := by simpa using h11
    have e1 : chX x = 10 := chX_hd (by rw [hd_def, if_pos hi1]) (by decide)
    refine tx ?_
    refine sr 1 ?_
    refine sgo ?_
    refine tr1 hRb fun w hM => ?_
    first | exact ⟨by rw [e1], hM.below⟩ | exact ⟨by rw [hch, ← hp2, hl.end (by omega)]; rfl, hM.below⟩
  have hi1 : inB x.op 1 14 = true := by simpa using h11
  refine kgs ?_
  refine tx ?_
  refine s1 (yF fa24_1) ?_
  refine s1 (yL 1 Tryz.underlying22) ?_
  refine s1 (y_len_slice rfl rfl Tryz.underlying22) ?_
  refine sr 2 ?_
  refine sg rfl (yF fa24_0) ?_
  refine sg rfl (yL 1 Tryz.underlying3) ?_
  refine sg rfl (y_call rfl rfl rfl cf61 (fun _ w _ => groups_any _ w)) ?_
  refine sg rfl (y_not rfl rfl) ?_
  refine s1 (y_and rfl rfl rfl) ?_
  refine sr 1 ?_
  refine sg rfl (yF fa24_2) ?_
  refine sg rfl (yL 1 Tryz.underlying3) ?_
  refine sg rfl (y_bin rfl rfl rfl (fun _ => b_neq)) ?_
  refine sg rfl (y_move rfl rfl) ?_
  refine sg rfl (yF fa24_3) ?_
  refine sg rfl (yL 1 Tryz.underlying3) ?_
  refine sg rfl (y_bin rfl rfl rfl (fun _ => b_neq)) ?_
  refine sg rfl (y_or rfl rfl rfl) ?_
  refine sg rfl (y_move rfl rfl) ?_
  refine sg rfl (yF fa24_0) ?_
  refine sg rfl (yL 1 Tryz.underlying3) ?_
  refine sg rfl (y_call rfl rfl rfl cf62 (fun _ w _ => ranges_any _ w)) ?_
  refine sg rfl (y_not rfl rfl) ?_
  refine sg rfl (y_and rfl rfl rfl) ?_
  refine s1 (y_or rfl rfl rfl) ?_
  refine sr 1 ?_
  refine sg rfl (yF fa24_4) ?_
  refine sg rfl (yL 1 Tryz.underlying9) ?_
  refine sg rfl (y_bin rfl rfl rfl (fun _ => b_neqs)) ?_
  refine sg rfl (y_move rfl rfl) ?_
  refine sg rfl (yF fa24_0) ?_
  refine sg rfl (yL 1 Tryz.underlying3) ?_
  refine sg rfl (y_call rfl rfl rfl cf63 (fun _ w _ => named_any _ w)) ?_
  refine sg rfl (y_not rfl rfl) ?_
  refine sg rfl (y_and rfl rfl rfl) ?_
  refine s1 (y_or rfl rfl rfl) ?_
  refine sr 1 ?_
  refine sg rfl (yF fa24_5) ?_
  refine sg rfl (yL 1 Tryz.underlying9) ?_
  refine sg rfl (y_bin rfl rfl rfl (fun _ => b_neqs)) ?_
  refine sg rfl (y_move rfl rfl) ?_
  refine sg rfl (yF fa24_0) ?_
  refine sg rfl (yL 1 Tryz.underlying3) ?_
  refine sg rfl (y_call rfl rfl rfl cf64 (fun _ w _ => worded_any _ w)) ?_
  refine sg rfl (y_not rfl rfl) ?_
  refine sg rfl (y_and rfl rfl rfl) ?_
  refine s1 (y_as (v' := .bool (f1B x)) (by simp only [f1B, hlen, Int.natCast_pos]) (y_or rfl rfl rfl)) ?_
  refine sgo ?_
  refine T_cond rfl ?_ ?_ <;> intro h59
  · skip
    have e1 : chX x = 1 := chX_hd (by rw [hd_def, if_neg (by rw [hi1]; simp), if_pos h59]) (by decide)
    refine tx ?_
    refine sr 1 ?_
    refine sgo ?_
    refine tr1 hRb fun w hM => ?_
    first | exact ⟨by rw [e1], hM.below⟩ | exact ⟨by rw [hch, ← hp2, hl.end (by omega)]; rfl, hM.below⟩
  refine kgs ?_
  refine tx ?_
  refine s1 (yF fa24_0) ?_
  refine s1 (yL 1 Tryz.underlying3) ?_
  refine sr 2 ?_
  refine sg rfl (yF fa24_0) ?_
  refine sg rfl (yL 1 Tryz.underlying3) ?_
  refine sg rfl (y_bin rfl rfl rfl (fun _ => b_eql)) ?_
  refine s1 (y_or rfl rfl rfl) ?_
  refine sr 1 ?_
  refine sg rfl (yF fa24_1) ?_
  refine sg rfl (yL 1 Tryz.underlying22) ?_
  refine sg rfl (y_len_slice rfl rfl Tryz.underlying22) ?_
  refine sg rfl (y_bin rfl rfl rfl (fun _ => b_lss)) ?_
  refine s1 (y_and rfl rfl rfl) ?_
  refine sr 1 ?_
  refine sg rfl (yF fa24_0) ?_
  refine sg rfl (yL 1 Tryz.underlying3) ?_
  refine sg rfl (y_bin rfl rfl rfl (fun _ => b_eql)) ?_
  refine sg rfl (y_move rfl rfl) ?_
  refine sg rfl (yF fa24_1) ?_
  refine sg rfl (yL 1 Tryz.underlying22) ?_
  refine sg rfl (y_len_slice rfl rfl Tryz.underlying22) ?_
  refine sg rfl (y_bin rfl rfl rfl (fun _ => b_neq)) ?_
  refine sg rfl (y_and rfl rfl rfl) ?_
  refine s1 (y_as (v' := .bool (f2B x)) (by rw [f2B, hlen, show decide (((x.q : Nat) : Int) < 2) = decide (x.q < 2) from decide_eq_decide.2 (by omega), show decide (((x.q : Nat) : Int) = 1) = decide (x.q = 1) from decide_eq_decide.2 (by omega)]) (y_or rfl rfl rfl)) ?_
  refine sgo ?_
  refine T_cond rfl ?_ ?_ <;> intro h84
  · skip
    have e1 : chX x = 1 := chX_hd (by rw [hd_def, if_neg (by rw [hi1]; simp), if_neg (by rw [h59]; simp), if_pos h84]) (by decide)
    refine tx ?_
    refine sr 1 ?_
    refine sgo ?_
    refine tr1 hRb fun w hM => ?_
    first | exact ⟨by rw [e1], hM.below⟩ | exact ⟨by rw [hch, ← hp2, hl.end (by omega)]; rfl, hM.below⟩
  have hre := hd_rest hi1 h59 h84
  refine kgs ?_
  refine tx ?_
  refine s1 (yF fa24_0) ?_
  refine s1 (yL 1 Tryz.underlying3) ?_
  refine s1 (y_call rfl rfl rfl cf62 (fun _ w _ => ranges_any _ w)) ?_
  refine sgo ?_
  refine T_cond rfl ?_ ?_ <;> intro h87
  · skip
    have hr : rngB x.op = true := h87
    refine tx ?_
    refine sr 2 ?_
    refine sgs ?_
    refine tx ?_
    refine s1 (yF fa24_0) ?_
    refine s1 (yL 1 Tryz.underlying3) ?_
    refine sgo ?_
    refine T_block ?_
    refine tx ?_
    refine sr 2 ?_
    refine sgo ?_
    refine T_cond rfl ?_ ?_ <;> intro h90
    · skip
      have hk5 : x.op = 5 := by simpa using h90
      refine T_region ?_
      refine sr 2 ?_
      refine sgs ?_
      refine tx ?_
      refine s1 (yF fa24_2) ?_
      refine s1 (yL 1 Tryz.underlying3) ?_
      refine sr 2 ?_
      refine s1 (y_call rfl rfl rfl cf60 (fun _ w _ => fout_any _ _ _ w)) ?_
      refine sr 1 ?_
      refine sg rfl (yF fa24_3) ?_
      refine sg rfl (yL 1 Tryz.underlying3) ?_
      refine sg rfl (y_move rfl rfl) ?_
      refine sg rfl (y_move rfl rfl) ?_
      refine sg rfl (y_call rfl rfl rfl cf60 (fun _ w _ => fout_any _ _ _ w)) ?_
      refine s1 (y_as (v' := .bool (r1B x)) (by rw [r1B, loR, hiR, if_pos hk5, if_pos hk5]) (y_or rfl rfl rfl)) ?_
      refine sgo ?_
      refine T_cond rfl ?_ ?_ <;> intro h105
      · skip
        have e1 : chX x = 2 := chX_hd (by rw [hre, if_pos (by rw [hr, h105]; rfl)]) (by decide)
        refine tx ?_
        refine sr 1 ?_
        refine sgo ?_
        refine tr1 hRb fun w hM => ?_
        first | exact ⟨by rw [e1], hM.below⟩ | exact ⟨by rw [hch, ← hp2, hl.end (by omega)]; rfl, hM.below⟩
      refine kgx ?_
      refine s1 (yF fa24_3) ?_
      refine s1 (yL 1 Tryz.underlying3) ?_
      refine s1 (yF fa24_2) ?_
      refine s1 (yL 1 Tryz.underlying3) ?_
      refine sr 1 ?_
      refine sgo ?_
      refine T_cond rfl ?_ ?_ <;> intro h110
      · skip
        have e1 : chX x = 5 := chX_hd (by rw [hre, if_neg (by rw [hr, h105]; simp), if_pos (by rw [hr, h110]; rfl)]) (by decide)
        refine tx ?_
        refine sr 1 ?_
        refine sgo ?_
        refine tr1 hRb fun w hM => ?_
        first | exact ⟨by rw [e1], hM.below⟩ | exact ⟨by rw [hch, ← hp2, hl.end (by omega)]; rfl, hM.below⟩
      have hla := hd_late hre (by rw [hr, h105]; rfl) (by rw [hr, h110]; rfl)
      refine kgs ?_
      refine tx ?_
      refine s1 (yF fa24_0) ?_
      refine s1 (yL 1 Tryz.underlying3) ?_
      refine s1 (y_call rfl rfl rfl cf63 (fun _ w _ => named_any _ w)) ?_
      refine sr 1 ?_
      refine sg rfl (yF fa24_4) ?_
      refine sg rfl (yL 1 Tryz.underlying9) ?_
      refine sg rfl (y_call rfl rfl rfl cf65 (fun _ w _ => IsName_any _ w)) ?_
      refine sg rfl (y_not rfl rfl) ?_
      refine s1 (y_and rfl rfl rfl) ?_
      refine sgo ?_
      refine T_cond rfl ?_ ?_ <;> intro h119
      · skip
        have e1 : chX x = 3 := chX_hd (by rw [hla, if_pos h119]) (by decide)
        refine tx ?_
        refine sr 1 ?_
        refine sgo ?_
        refine tr1 hRb fun w hM => ?_
        first | exact ⟨by rw [e1], hM.below⟩ | exact ⟨by rw [hch, ← hp2, hl.end (by omega)]; rfl, hM.below⟩
      rw [if_neg (by rw [h119]; simp)] at hla
      refine kgs ?_
      refine tx ?_
      refine s1 (yF fa24_0) ?_
      refine s1 (yL 1 Tryz.underlying3) ?_
      refine s1 (y_call rfl rfl rfl cf64 (fun _ w _ => worded_any _ w)) ?_
      refine sgo ?_
      refine T_cond rfl ?_ ?_ <;> intro h122
      · skip
        have hw : wrdB x.op = true := h122
        rw [if_pos hw] at hla
        refine tx ?_
        refine s1 (yF fa24_5) ?_
        refine s1 (yL 1 Tryz.underlying9) ?_
        refine s1 (y_call rfl rfl rfl cf66 (fun _ w _ => checkText_any _ w)) ?_
        refine sr 1 ?_
        refine sgx ?_
        refine sr 2 ?_
        refine sgo ?_
        refine T_cond rfl ?_ ?_ <;> intro h127
        · skip
          have hn0 : txtNo x.tx ≠ 0 := by simpa using h127
          have e1 : chX x = txtNo x.tx := chX_hd hla hn0
          refine tx ?_
          refine sr 2 ?_
          refine sgo ?_
          refine tr1 hRb fun w hM => ?_
          first | exact ⟨by rw [e1], hM.below⟩ | exact ⟨by rw [hch, ← hp2, hl.end (by omega)]; rfl, hM.below⟩
        have hn0 : txtNo x.tx = 0 := by simpa using h127
        have hch := chX_kids (hla.trans hn0)
        refine kgs ?_
        refine tx ?_
        refine s1 (yF fa24_1) ?_
        refine s1 (yL 1 Tryz.underlying22) ?_
        refine s1 (y_len_slice rfl rfl Tryz.underlying22) ?_
        refine sr 1 ?_
        refine sgo ?_
        refine T_block ?_
        refine lK1 (kf := [(2, 2), (7, 8), (132, 141)]) (kl := [(2, 2), (7, 8), (132, 141)]) (fun (i : Nat) => [(132, true, .int .i64 (i : Int))]) (fun (i : Nat) => []) (fun (i : Nat) => i ≤ x.q ∧ chkL (chdNo txtNo nameOk) ((x.kids.drop i).map SC.says) = chkL (chdNo txtNo nameOk) (x.kids.map SC.says)) (fun (i : Nat) => x.q - i) 0 ?_ ?_ ?_ ?_
        · exact ⟨by omega, rfl⟩
        · exact ⟨rfl, trivial⟩
        · exact trivial
        rintro i ⟨hp1, hp2⟩
        refine tx ?_
        refine sr 1 ?_
        refine sgs ?_
        refine T_cond rfl ?_ ?_ <;> intro h133
        · try simp only [nrm] at h133
          obtain ⟨k, hx1, hx2⟩ := hl.at (i := i) (by omega)
          rw [hx2, List.map_cons, chkL] at hp2
          refine kgs ?_
          refine T_block ?_
          refine tx ?_
          refine s1 (y_indexAddr rfl rfl rfl Tryz.underlying22 sz24 (fun hg => hl.isSome (by omega)) (fun _ => by omega)) ?_
          refine s1 (y_loadT rfl rfl hl (fun _ => rfl) (fun _ => hx1) Tryz.underlying24 rfl sz24) ?_
          refine S_alloc 7 7 rfl rfl rfl rfl z24 ?_
          intro b7
          refine S_store 7 rfl rfl rfl rfl rfl rfl sz24 rfl rfl ?_
          refine sgx ?_
          refine s1 (yA 7 rfl Tryz.underlying24 sz24) ?_
          refine s1 (y_call rfl rfl rfl cf34 (fun _ w1 hM => ih k (mem_at hx1) w1 ((hk k (mem_at hx1)).lift hM.below))) ?_
          refine sr 1 ?_
          refine sgx ?_
          refine sr 2 ?_
          refine sgo ?_
          refine T_cond rfl ?_ ?_ <;> intro h139
          · skip
            have hn1 : chX k ≠ 0 := by simpa using h139
            rw [if_pos hn1] at hp2
            have e1 : chX x = chX k := by rw [hch, ← hp2]
            refine tx ?_
            refine sr 2 ?_
            refine sgo ?_
            refine tr1 hRb fun w hM => ?_
            first | exact ⟨by rw [e1], hM.below⟩ | exact ⟨by rw [hch, ← hp2, hl.end (by omega)]; rfl, hM.below⟩
          have hn1 : chX k = 0 := by simpa using h139
          rw [if_neg (by rw [show chkP (chdNo txtNo nameOk) k.says = chX k from rfl, hn1]; simp)] at hp2
          refine kgr ?_
          refine s1 (y_bin rfl rfl rfl (fun hg => b_add (by omega))) ?_
          refine sr 1 ?_
          refine S_nil (nK1 (kf := [(2, 2), (7, 8), (132, 141)]) (kl := [(2, 2), (7, 8), (132, 141)]) (i + 1) ?_ ?_ ?_ ?_)
          · omega
          · exact ⟨by omega, hp2⟩
          · exact ⟨rfl, trivial⟩
          · exact trivial
        try simp only [nrm] at h133
        refine egx ?_
        refine sr 1 ?_
        refine sgo ?_
        refine tr1 hRb fun w hM => ?_
        first | exact ⟨by rw [e1], hM.below⟩ | exact ⟨by rw [hch, ← hp2, hl.end (by omega)]; rfl, hM.below⟩
      have hw : wrdB x.op = false := h122
      rw [if_neg (by rw [hw]; simp)] at hla
      have hch := chX_kids hla
      refine kgs ?_
      refine tx ?_
      refine s1 (yF fa24_1) ?_
      refine s1 (yL 1 Tryz.underlying22) ?_
      refine s1 (y_len_slice rfl rfl Tryz.underlying22) ?_
      refine sr 1 ?_
      refine sgo ?_
      refine T_block ?_
      refine lK1 (kf := [(2, 2), (7, 8), (132, 141)]) (kl := [(2, 2), (7, 8), (132, 141)]) (fun (i : Nat) => [(132, true, .int .i64 (i : Int))]) (fun (i : Nat) => []) (fun (i : Nat) => i ≤ x.q ∧ chkL (chdNo txtNo nameOk) ((x.kids.drop i).map SC.says) = chkL (chdNo txtNo nameOk) (x.kids.map SC.says)) (fun (i : Nat) => x.q - i) 0 ?_ ?_ ?_ ?_
      · exact ⟨by omega, rfl⟩
      · exact ⟨rfl, trivial⟩
      · exact trivial
      rintro i ⟨hp1, hp2⟩
      refine tx ?_
      refine sr 1 ?_
      refine sgs ?_
      refine T_cond rfl ?_ ?_ <;> intro h133
      · try simp only [nrm] at h133
        obtain ⟨k, hx1, hx2⟩ := hl.at (i := i) (by omega)
        rw [hx2, List.map_cons, chkL] at hp2
        refine kgs ?_
        refine T_block ?_
        refine tx ?_
        refine s1 (y_indexAddr rfl rfl rfl Tryz.underlying22 sz24 (fun hg => hl.isSome (by omega)) (fun _ => by omega)) ?_
        refine s1 (y_loadT rfl rfl hl (fun _ => rfl) (fun _ => hx1) Tryz.underlying24 rfl sz24) ?_
        refine S_alloc 7 7 rfl rfl rfl rfl z24 ?_
        intro b7
        refine S_store 7 rfl rfl rfl rfl rfl rfl sz24 rfl rfl ?_
        refine sgx ?_
        refine s1 (yA 7 rfl Tryz.underlying24 sz24) ?_
        refine s1 (y_call rfl rfl rfl cf34 (fun _ w1 hM => ih k (mem_at hx1) w1 ((hk k (mem_at hx1)).lift hM.below))) ?_
        refine sr 1 ?_
        refine sgx ?_
        refine sr 2 ?_
        refine sgo ?_
        refine T_cond rfl ?_ ?_ <;> intro h139
        · skip
          have hn1 : chX k ≠ 0 := by simpa using h139
          rw [if_pos hn1] at hp2
          have e1 : chX x = chX k := by rw [hch, ← hp2]
          refine tx ?_
          refine sr 2 ?_
          refine sgo ?_
          refine tr1 hRb fun w hM => ?_
          first | exact ⟨by rw [e1], hM.below⟩ | exact ⟨by rw [hch, ← hp2, hl.end (by omega)]; rfl, hM.below⟩
        have hn1 : chX k = 0 := by simpa using h139
        rw [if_neg (by rw [show chkP (chdNo txtNo nameOk) k.says = chX k from rfl, hn1]; simp)] at hp2
        refine kgr ?_
        refine s1 (y_bin rfl rfl rfl (fun hg => b_add (by omega))) ?_
        refine sr 1 ?_
        refine S_nil (nK1 (kf := [(2, 2), (7, 8), (132, 141)]) (kl := [(2, 2), (7, 8), (132, 141)]) (i + 1) ?_ ?_ ?_ ?_)
        · omega
        · exact ⟨by omega, hp2⟩
        · exact ⟨rfl, trivial⟩
        · exact trivial
      try simp only [nrm] at h133
      refine egx ?_
      refine sr 1 ?_
      refine sgo ?_
      refine tr1 hRb fun w hM => ?_
      first | exact ⟨by rw [e1], hM.below⟩ | exact ⟨by rw [hch, ← hp2, hl.end (by omega)]; rfl, hM.below⟩
    have hk5 : ¬ x.op = 5 := by simpa using h90
    refine tx ?_
    refine sr 2 ?_
    refine sgo ?_
    refine T_cond rfl ?_ ?_ <;> intro h92
    · skip
      have hk6 : x.op = 6 := by simpa using h92
      refine T_region ?_
      refine sr 1 ?_
      refine sgs ?_
      refine tx ?_
      refine s1 (yF fa24_2) ?_
      refine s1 (yL 1 Tryz.underlying3) ?_
      refine sr 2 ?_
      refine s1 (y_call rfl rfl rfl cf60 (fun _ w _ => fout_any _ _ _ w)) ?_
      refine sr 1 ?_
      refine sg rfl (yF fa24_3) ?_
      refine sg rfl (yL 1 Tryz.underlying3) ?_
      refine sg rfl (y_move rfl rfl) ?_
      refine sg rfl (y_move rfl rfl) ?_
      refine sg rfl (y_call rfl rfl rfl cf60 (fun _ w _ => fout_any _ _ _ w)) ?_
      refine s1 (y_as (v' := .bool (r1B x)) (by rw [r1B, loR, hiR, if_neg hk5, if_neg hk5, if_pos hk6]) (y_or rfl rfl rfl)) ?_
      refine sgo ?_
      refine T_cond rfl ?_ ?_ <;> intro h105
      · skip
        have e1 : chX x = 2 := chX_hd (by rw [hre, if_pos (by rw [hr, h105]; rfl)]) (by decide)
        refine tx ?_
        refine sr 1 ?_
        refine sgo ?_
        refine tr1 hRb fun w hM => ?_
        first | exact ⟨by rw [e1], hM.below⟩ | exact ⟨by rw [hch, ← hp2, hl.end (by omega)]; rfl, hM.below⟩
      refine kgx ?_
      refine s1 (yF fa24_3) ?_
      refine s1 (yL 1 Tryz.underlying3) ?_
      refine s1 (yF fa24_2) ?_
      refine s1 (yL 1 Tryz.underlying3) ?_
      refine sr 1 ?_
      refine sgo ?_
      refine T_cond rfl ?_ ?_ <;> intro h110
      · skip
        have e1 : chX x = 5 := chX_hd (by rw [hre, if_neg (by rw [hr, h105]; simp), if_pos (by rw [hr, h110]; rfl)]) (by decide)
        refine tx ?_
        refine sr 1 ?_
        refine sgo ?_
        refine tr1 hRb fun w hM => ?_
        first | exact ⟨by rw [e1], hM.below⟩ | exact ⟨by rw [hch, ← hp2, hl.end (by omega)]; rfl, hM.below⟩
      have hla := hd_late hre (by rw [hr, h105]; rfl) (by rw [hr, h110]; rfl)
      refine kgs ?_
      refine tx ?_
      refine s1 (yF fa24_0) ?_
      refine s1 (yL 1 Tryz.underlying3) ?_
      refine s1 (y_call rfl rfl rfl cf63 (fun _ w _ => named_any _ w)) ?_
      refine sr 1 ?_
      refine sg rfl (yF fa24_4) ?_
      refine sg rfl (yL 1 Tryz.underlying9) ?_
      refine sg rfl (y_call rfl rfl rfl cf65 (fun _ w _ => IsName_any _ w)) ?_
      refine sg rfl (y_not rfl rfl) ?_
      refine s1 (y_and rfl rfl rfl) ?_
      refine sgo ?_
      refine T_cond rfl ?_ ?_ <;> intro h119
      · skip
        have e1 : chX x = 3 := chX_hd (by rw [hla, if_pos h119]) (by decide)
        refine tx ?_
        refine sr 1 ?_
        refine sgo ?_
        refine tr1 hRb fun w hM => ?_
        first | exact ⟨by rw [e1], hM.below⟩ | exact ⟨by rw [hch, ← hp2, hl.end (by omega)]; rfl, hM.below⟩
      rw [if_neg (by rw [h119]; simp)] at hla
      refine kgs ?_
      refine tx ?_
      refine s1 (yF fa24_0) ?_
      refine s1 (yL 1 Tryz.underlying3) ?_
      refine s1 (y_call rfl rfl rfl cf64 (fun _ w _ => worded_any _ w)) ?_
      refine sgo ?_
      refine T_cond rfl ?_ ?_ <;> intro h122
      · skip
        have hw : wrdB x.op = true := h122
        rw [if_pos hw] at hla
        refine tx ?_
        refine s1 (yF fa24_5) ?_
        refine s1 (yL 1 Tryz.underlying9) ?_
        refine s1 (y_call rfl rfl rfl cf66 (fun _ w _ => checkText_any _ w)) ?_
        refine sr 1 ?_
        refine sgx ?_
        refine sr 2 ?_
        refine sgo ?_
        refine T_cond rfl ?_ ?_ <;> intro h127
        · skip
          have hn0 : txtNo x.tx ≠ 0 := by simpa using h127
          have e1 : chX x = txtNo x.tx := chX_hd hla hn0
          refine tx ?_
          refine sr 2 ?_
          refine sgo ?_
          refine tr1 hRb fun w hM => ?_
          first | exact ⟨by rw [e1], hM.below⟩ | exact ⟨by rw [hch, ← hp2, hl.end (by omega)]; rfl, hM.below⟩
        have hn0 : txtNo x.tx = 0 := by simpa using h127
        have hch := chX_kids (hla.trans hn0)
        refine kgs ?_
        refine tx ?_
        refine s1 (yF fa24_1) ?_
        refine s1 (yL 1 Tryz.underlying22) ?_
        refine s1 (y_len_slice rfl rfl Tryz.underlying22) ?_
        refine sr 1 ?_
        refine sgo ?_
        refine T_block ?_
        refine lK1 (kf := [(2, 2), (7, 8), (132, 141)]) (kl := [(2, 2), (7, 8), (132, 141)]) (fun (i : Nat) => [(132, true, .int .i64 (i : Int))]) (fun (i : Nat) => []) (fun (i : Nat) => i ≤ x.q ∧ chkL (chdNo txtNo nameOk) ((x.kids.drop i).map SC.says) = chkL (chdNo txtNo nameOk) (x.kids.map SC.says)) (fun (i : Nat) => x.q - i) 0 ?_ ?_ ?_ ?_
        · exact ⟨by omega, rfl⟩
        · exact ⟨rfl, trivial⟩
        · exact trivial
        rintro i ⟨hp1, hp2⟩
        refine tx ?_
        refine sr 1 ?_
        refine sgs ?_
        refine T_cond rfl ?_ ?_ <;> intro h133
        · try simp only [nrm] at h133
          obtain ⟨k, hx1, hx2⟩ := hl.at (i := i) (by omega)
          rw [hx2, List.map_cons, chkL] at hp2
          refine kgs ?_
          refine T_block ?_
          refine tx ?_
          refine s1 (y_indexAddr rfl rfl rfl Tryz.underlying22 sz24 (fun hg => hl.isSome (by omega)) (fun _ => by omega)) ?_
          refine s1 (y_loadT rfl rfl hl (fun _ => rfl) (fun _ => hx1) Tryz.underlying24 rfl sz24) ?_
          refine S_alloc 7 7 rfl rfl rfl rfl z24 ?_
          intro b7
          refine S_store 7 rfl rfl rfl rfl rfl rfl sz24 rfl rfl ?_
          refine sgx ?_
          refine s1 (yA 7 rfl Tryz.underlying24 sz24) ?_
          refine s1 (y_call rfl rfl rfl cf34 (fun _ w1 hM => ih k (mem_at hx1) w1 ((hk k (mem_at hx1)).lift hM.below))) ?_
          refine sr 1 ?_
          refine sgx ?_
          refine sr 2 ?_
          refine sgo ?_
          refine T_cond rfl ?_ ?_ <;> intro h139
          · skip
            have hn1 : chX k ≠ 0 := by simpa using h139
            rw [if_pos hn1] at hp2
            have e1 : chX x = chX k := by rw [hch, ← hp2]
            refine tx ?_
            refine sr 2 ?_
            refine sgo ?_
            refine tr1 hRb fun w hM => ?_
            first | exact ⟨by rw [e1], hM.below⟩ | exact ⟨by rw [hch, ← hp2, hl.end (by omega)]; rfl, hM.below⟩
          have hn1 : chX k = 0 := by simpa using h139
          rw [if_neg (by rw [show chkP (chdNo txtNo nameOk) k.says = chX k from rfl, hn1]; simp)] at hp2
          refine kgr ?_
          refine s1 (y_bin rfl rfl rfl (fun hg => b_add (by omega))) ?_
          refine sr 1 ?_
          refine S_nil (nK1 (kf := [(2, 2), (7, 8), (132, 141)]) (kl := [(2, 2), (7, 8), (132, 141)]) (i + 1) ?_ ?_ ?_ ?_)
          · omega
          · exact ⟨by omega, hp2⟩
          · exact ⟨rfl, trivial⟩
          · exact trivial
        try simp only [nrm] at h133
        refine egx ?_
        refine sr 1 ?_
        refine sgo ?_
        refine tr1 hRb fun w hM => ?_
        first | exact ⟨by rw [e1], hM.below⟩ | exact ⟨by rw [hch, ← hp2, hl.end (by omega)]; rfl, hM.below⟩
      have hw : wrdB x.op = false := h122
      rw [if_neg (by rw [hw]; simp)] at hla
      have hch := chX_kids hla
      refine kgs ?_
      refine tx ?_
      refine s1 (yF fa24_1) ?_
      refine s1 (yL 1 Tryz.underlying22) ?_
      refine s1 (y_len_slice rfl rfl Tryz.underlying22) ?_
      refine sr 1 ?_
      refine sgo ?_
      refine T_block ?_
      refine lK1 (kf := [(2, 2), (7, 8), (132, 141)]) (kl := [(2, 2), (7, 8), (132, 141)]) (fun (i : Nat) => [(132, true, .int .i64 (i : Int))]) (fun (i : Nat) => []) (fun (i : Nat) => i ≤ x.q ∧ chkL (chdNo txtNo nameOk) ((x.kids.drop i).map SC.says) = chkL (chdNo txtNo nameOk) (x.kids.map SC.says)) (fun (i : Nat) => x.q - i) 0 ?_ ?_ ?_ ?_
      · exact ⟨by omega, rfl⟩
      · exact ⟨rfl, trivial⟩
      · exact trivial
      rintro i ⟨hp1, hp2⟩
      refine tx ?_
      refine sr 1 ?_
      refine sgs ?_
      refine T_cond rfl ?_ ?_ <;> intro h133
      · try simp only [nrm] at h133
        obtain ⟨k, hx1, hx2⟩ := hl.at (i := i) (by omega)
        rw [hx2, List.map_cons, chkL] at hp2
        refine kgs ?_
        refine T_block ?_
        refine tx ?_
        refine s1 (y_indexAddr rfl rfl rfl Tryz.underlying22 sz24 (fun hg => hl.isSome (by omega)) (fun _ => by omega)) ?_
        refine s1 (y_loadT rfl rfl hl (fun _ => rfl) (fun _ => hx1) Tryz.underlying24 rfl sz24) ?_
        refine S_alloc 7 7 rfl rfl rfl rfl z24 ?_
        intro b7
        refine S_store 7 rfl rfl rfl rfl rfl rfl sz24 rfl rfl ?_
        refine sgx ?_
        refine s1 (yA 7 rfl Tryz.underlying24 sz24) ?_
        refine s1 (y_call rfl rfl rfl cf34 (fun _ w1 hM => ih k (mem_at hx1) w1 ((hk k (mem_at hx1)).lift hM.below))) ?_
        refine sr 1 ?_
        refine sgx ?_
        refine sr 2 ?_
        refine sgo ?_
        refine T_cond rfl ?_ ?_ <;> intro h139
        · skip
          have hn1 : chX k ≠ 0 := by simpa using h139
          rw [if_pos hn1] at hp2
          have e1 : chX x = chX k := by rw [hch, ← hp2]
          refine tx ?_
          refine sr 2 ?_
          refine sgo ?_
          refine tr1 hRb fun w hM => ?_
          first | exact ⟨by rw [e1], hM.below⟩ | exact ⟨by rw [hch, ← hp2, hl.end (by omega)]; rfl, hM.below⟩
        have hn1 : chX k = 0 := by simpa using h139
        rw [if_neg (by rw [show chkP (chdNo txtNo nameOk) k.says = chX k from rfl, hn1]; simp)] at hp2
        refine kgr ?_
        refine s1 (y_bin rfl rfl rfl (fun hg => b_add (by omega))) ?_
        refine sr 1 ?_
        refine S_nil (nK1 (kf := [(2, 2), (7, 8), (132, 141)]) (kl := [(2, 2), (7, 8), (132, 141)]) (i + 1) ?_ ?_ ?_ ?_)
        · omega
        · exact ⟨by omega, hp2⟩
        · exact ⟨rfl, trivial⟩
        · exact trivial
      try simp only [nrm] at h133
      refine egx ?_
      refine sr 1 ?_
      refine sgo ?_
      refine tr1 hRb fun w hM => ?_
      first | exact ⟨by rw [e1], hM.below⟩ | exact ⟨by rw [hch, ← hp2, hl.end (by omega)]; rfl, hM.below⟩
    have hk6 : ¬ x.op = 6 := by simpa using h92
    refine kgs ?_
    refine tx ?_
    refine s1 (yF fa24_2) ?_
    refine s1 (yL 1 Tryz.underlying3) ?_
    refine sr 2 ?_
    refine s1 (y_call rfl rfl rfl cf60 (fun _ w _ => fout_any _ _ _ w)) ?_
    refine sr 1 ?_
    refine sg rfl (yF fa24_3) ?_
    refine sg rfl (yL 1 Tryz.underlying3) ?_
    refine sg rfl (y_move rfl rfl) ?_
    refine sg rfl (y_move rfl rfl) ?_
    refine sg rfl (y_call rfl rfl rfl cf60 (fun _ w _ => fout_any _ _ _ w)) ?_
    refine s1 (y_as (v' := .bool (r1B x)) (by rw [r1B, loR, hiR, if_neg hk5, if_neg hk5, if_neg hk6]) (y_or rfl rfl rfl)) ?_
    refine sgo ?_
    refine T_cond rfl ?_ ?_ <;> intro h105
    · skip
      have e1 : chX x = 2 := chX_hd (by rw [hre, if_pos (by rw [hr, h105]; rfl)]) (by decide)
      refine tx ?_
      refine sr 1 ?_
      refine sgo ?_
      refine tr1 hRb fun w hM => ?_
      first | exact ⟨by rw [e1], hM.below⟩ | exact ⟨by rw [hch, ← hp2, hl.end (by omega)]; rfl, hM.below⟩
    refine kgx ?_
    refine s1 (yF fa24_3) ?_
    refine s1 (yL 1 Tryz.underlying3) ?_
    refine s1 (yF fa24_2) ?_
    refine s1 (yL 1 Tryz.underlying3) ?_
    refine sr 1 ?_
    refine sgo ?_
    refine T_cond rfl ?_ ?_ <;> intro h110
    · skip
      have e1 : chX x = 5 := chX_hd (by rw [hre, if_neg (by rw [hr, h105]; simp), if_pos (by rw [hr, h110]; rfl)]) (by decide)
      refine tx ?_
      refine sr 1 ?_
      refine sgo ?_
      refine tr1 hRb fun w hM => ?_
      first | exact ⟨by rw [e1], hM.below⟩ | exact ⟨by rw [hch, ← hp2, hl.end (by omega)]; rfl, hM.below⟩
    have hla := hd_late hre (by rw [hr, h105]; rfl) (by rw [hr, h110]; rfl)
    refine kgs ?_
    refine tx ?_
    refine s1 (yF fa24_0) ?_
    refine s1 (yL 1 Tryz.underlying3) ?_
    refine s1 (y_call rfl rfl rfl cf63 (fun _ w _ => named_any _ w)) ?_
    refine sr 1 ?_
    refine sg rfl (yF fa24_4) ?_
    refine sg rfl (yL 1 Tryz.underlying9) ?_
    refine sg rfl (y_call rfl rfl rfl cf65 (fun _ w _ => IsName_any _ w)) ?_
    refine sg rfl (y_not rfl rfl) ?_
    refine s1 (y_and rfl rfl rfl) ?_
    refine sgo ?_
    refine T_cond rfl ?_ ?_ <;> intro h119
    · skip
      have e1 : chX x = 3 := chX_hd (by rw [hla, if_pos h119]) (by decide)
      refine tx ?_
      refine sr 1 ?_
      refine sgo ?_
      refine tr1 hRb fun w hM => ?_
      first | exact ⟨by rw [e1], hM.below⟩ | exact ⟨by rw [hch, ← hp2, hl.end (by omega)]; rfl, hM.below⟩
    rw [if_neg (by rw [h119]; simp)] at hla
    refine kgs ?_
    refine tx ?_
    refine s1 (yF fa24_0) ?_
    refine s1 (yL 1 Tryz.underlying3) ?_
    refine s1 (y_call rfl rfl rfl cf64 (fun _ w _ => worded_any _ w)) ?_
    refine sgo ?_
    refine T_cond rfl ?_ ?_ <;> intro h122
    · skip
      have hw : wrdB x.op = true := h122
      rw [if_pos hw] at hla
      refine tx ?_
      refine s1 (yF fa24_5) ?_
      refine s1 (yL 1 Tryz.underlying9) ?_
      refine s1 (y_call rfl rfl rfl cf66 (fun _ w _ => checkText_any _ w)) ?_
      refine sr 1 ?_
      refine sgx ?_
      refine sr 2 ?_
      refine sgo ?_
      refine T_cond rfl ?_ ?_ <;> intro h127
      · skip
        have hn0 : txtNo x.tx ≠ 0 := by simpa using h127
        have e1 : chX x = txtNo x.tx := chX_hd hla hn0
        refine tx ?_
        refine sr 2 ?_
        refine sgo ?_
        refine tr1 hRb fun w hM => ?_
        first | exact ⟨by rw [e1], hM.below⟩ | exact ⟨by rw [hch, ← hp2, hl.end (by omega)]; rfl, hM.below⟩
      have hn0 : txtNo x.tx = 0 := by simpa using h127
      have hch := chX_kids (hla.trans hn0)
      refine kgs ?_
      refine tx ?_
      refine s1 (yF fa24_1) ?_
      refine s1 (yL 1 Tryz.underlying22) ?_
      refine s1 (y_len_slice rfl rfl Tryz.underlying22) ?_
      refine sr 1 ?_
      refine sgo ?_
      refine T_block ?_
      refine lK1 (kf := [(2, 2), (7, 8), (132, 141)]) (kl := [(2, 2), (7, 8), (132, 141)]) (fun (i : Nat) => [(132, true, .int .i64 (i : Int))]) (fun (i : Nat) => []) (fun (i : Nat) => i ≤ x.q ∧ chkL (chdNo txtNo nameOk) ((x.kids.drop i).map SC.says) = chkL (chdNo txtNo nameOk) (x.kids.map SC.says)) (fun (i : Nat) => x.q - i) 0 ?_ ?_ ?_ ?_
      · exact ⟨by omega, rfl⟩
      · exact ⟨rfl, trivial⟩
      · exact trivial
      rintro i ⟨hp1, hp2⟩
      refine tx ?_
      refine sr 1 ?_
      refine sgs ?_
      refine T_cond rfl ?_ ?_ <;> intro h133
      · try simp only [nrm] at h133
        obtain ⟨k, hx1, hx2⟩ := hl.at (i := i) (by omega)
        rw [hx2, List.map_cons, chkL] at hp2
        refine kgs ?_
        refine T_block ?_
        refine tx ?_
        refine s1 (y_indexAddr rfl rfl rfl Tryz.underlying22 sz24 (fun hg => hl.isSome (by omega)) (fun _ => by omega)) ?_
        refine s1 (y_loadT rfl rfl hl (fun _ => rfl) (fun _ => hx1) Tryz.underlying24 rfl sz24) ?_
        refine S_alloc 7 7 rfl rfl rfl rfl z24 ?_
        intro b7
        refine S_store 7 rfl rfl rfl rfl rfl rfl sz24 rfl rfl ?_
        refine sgx ?_
        refine s1 (yA 7 rfl Tryz.underlying24 sz24) ?_
        refine s1 (y_call rfl rfl rfl cf34 (fun _ w1 hM => ih k (mem_at hx1) w1 ((hk k (mem_at hx1)).lift hM.below))) ?_
        refine sr 1 ?_
        refine sgx ?_
        refine sr 2 ?_
        refine sgo ?_
        refine T_cond rfl ?_ ?_ <;> intro h139
        · skip
          have hn1 : chX k ≠ 0 := by simpa using h139
          rw [if_pos hn1] at hp2
          have e1 : chX x = chX k := by rw [hch, ← hp2]
          refine tx ?_
          refine sr 2 ?_
          refine sgo ?_
          refine tr1 hRb fun w hM => ?_
          first | exact ⟨by rw [e1], hM.below⟩ | exact ⟨by rw [hch, ← hp2, hl.end (by omega)]; rfl, hM.below⟩
        have hn1 : chX k = 0 := by simpa using h139
        rw [if_neg (by rw [show chkP (chdNo txtNo nameOk) k.says = chX k from rfl, hn1]; simp)] at hp2
        refine kgr ?_
        refine s1 (y_bin rfl rfl rfl (fun hg => b_add (by omega))) ?_
        refine sr 1 ?_
        refine S_nil (nK1 (kf := [(2, 2), (7, 8), (132, 141)]) (kl := [(2, 2), (7, 8), (132, 141)]) (i + 1) ?_ ?_ ?_ ?_)
        · omega
        · exact ⟨by omega, hp2⟩
        · exact ⟨rfl, trivial⟩
        · exact trivial
      try simp only [nrm] at h133
      refine egx ?_
      refine sr 1 ?_
      refine sgo ?_
      refine tr1 hRb fun w hM => ?_
      first | exact ⟨by rw [e1], hM.below⟩ | exact ⟨by rw [hch, ← hp2, hl.end (by omega)]; rfl, hM.below⟩
    have hw : wrdB x.op = false := h122
    rw [if_neg (by rw [hw]; simp)] at hla
    have hch := chX_kids hla
    refine kgs ?_
    refine tx ?_
    refine s1 (yF fa24_1) ?_
    refine s1 (yL 1 Tryz.underlying22) ?_
    refine s1 (y_len_slice rfl rfl Tryz.underlying22) ?_
    refine sr 1 ?_
    refine sgo ?_
    refine T_block ?_
    refine lK1 (kf := [(2, 2), (7, 8), (132, 141)]) (kl := [(2, 2), (7, 8), (132, 141)]) (fun (i : Nat) => [(132, true, .int .i64 (i : Int))]) (fun (i : Nat) => []) (fun (i : Nat) => i ≤ x.q ∧ chkL (chdNo txtNo nameOk) ((x.kids.drop i).map SC.says) = chkL (chdNo txtNo nameOk) (x.kids.map SC.says)) (fun (i : Nat) => x.q - i) 0 ?_ ?_ ?_ ?_
    · exact ⟨by omega, rfl⟩
    · exact ⟨rfl, trivial⟩
    · exact trivial
    rintro i ⟨hp1, hp2⟩
    refine tx ?_
    refine sr 1 ?_
    refine sgs ?_
    refine T_cond rfl ?_ ?_ <;> intro h133
    · try simp only [nrm] at h133
      obtain ⟨k, hx1, hx2⟩ := hl.at (i := i) (by omega)
      rw [hx2, List.map_cons, chkL] at hp2
      refine kgs ?_
      refine T_block ?_
      refine tx ?_
      refine s1 (y_indexAddr rfl rfl rfl Tryz.underlying22 sz24 (fun hg => hl.isSome (by omega)) (fun _ => by omega)) ?_
      refine s1 (y_loadT rfl rfl hl (fun _ => rfl) (fun _ => hx1) Tryz.underlying24 rfl sz24) ?_
      refine S_alloc 7 7 rfl rfl rfl rfl z24 ?_
      intro b7
      refine S_store 7 rfl rfl rfl rfl rfl rfl sz24 rfl rfl ?_
      refine sgx ?_
      refine s1 (yA 7 rfl Tryz.underlying24 sz24) ?_
      refine s1 (y_call rfl rfl rfl cf34 (fun _ w1 hM => ih k (mem_at hx1) w1 ((hk k (mem_at hx1)).lift hM.below))) ?_
      refine sr 1 ?_
      refine sgx ?_
      refine sr 2 ?_
      refine sgo ?_
      refine T_cond rfl ?_ ?_ <;> intro h139
      · skip
        have hn1 : chX k ≠ 0 := by simpa using h139
        rw [if_pos hn1] at hp2
        have e1 : chX x = chX k := by rw [hch, ← hp2]
        refine tx ?_
        refine sr 2 ?_
        refine sgo ?_
        refine tr1 hRb fun w hM => ?_
        first | exact ⟨by rw [e1], hM.below⟩ | exact ⟨by rw [hch, ← hp2, hl.end (by omega)]; rfl, hM.below⟩
      have hn1 : chX k = 0 := by simpa using h139
      rw [if_neg (by rw [show chkP (chdNo txtNo nameOk) k.says = chX k from rfl, hn1]; simp)] at hp2
      refine kgr ?_
      refine s1 (y_bin rfl rfl rfl (fun hg => b_add (by omega))) ?_
      refine sr 1 ?_
      refine S_nil (nK1 (kf := [(2, 2), (7, 8), (132, 141)]) (kl := [(2, 2), (7, 8), (132, 141)]) (i + 1) ?_ ?_ ?_ ?_)
      · omega
      · exact ⟨by omega, hp2⟩
      · exact ⟨rfl, trivial⟩
      · exact trivial
    try simp only [nrm] at h133
    refine egx ?_
    refine sr 1 ?_
    refine sgo ?_
    refine tr1 hRb fun w hM => ?_
    first | exact ⟨by rw [e1], hM.below⟩ | exact ⟨by rw [hch, ← hp2, hl.end (by omega)]; rfl, hM.below⟩
  have hr : rngB x.op = false := h87
  have hla := hd_late hre (by rw [hr]; rfl) (by rw [hr]; rfl)
  refine kgs ?_
  refine tx ?_
  refine s1 (yF fa24_0) ?_
  refine s1 (yL 1 Tryz.underlying3) ?_
  refine s1 (y_call rfl rfl rfl cf63 (fun _ w _ => named_any _ w)) ?_
  refine sr 1 ?_
  refine sg rfl (yF fa24_4) ?_
  refine sg rfl (yL 1 Tryz.underlying9) ?_
  refine sg rfl (y_call rfl rfl rfl cf65 (fun _ w _ => IsName_any _ w)) ?_
  refine sg rfl (y_not rfl rfl) ?_
  refine s1 (y_and rfl rfl rfl) ?_
  refine sgo ?_
  refine T_cond rfl ?_ ?_ <;> intro h119
  · skip
    have e1 : chX x = 3 := chX_hd (by rw [hla, if_pos h119]) (by decide)
    refine tx ?_
    refine sr 1 ?_
    refine sgo ?_
    refine tr1 hRb fun w hM => ?_
    first | exact ⟨by rw [e1], hM.below⟩ | exact ⟨by rw [hch, ← hp2, hl.end (by omega)]; rfl, hM.below⟩
  rw [if_neg (by rw [h119]; simp)] at hla
  refine kgs ?_
  refine tx ?_
  refine s1 (yF fa24_0) ?_
  refine s1 (yL 1 Tryz.underlying3) ?_
  refine s1 (y_call rfl rfl rfl cf64 (fun _ w _ => worded_any _ w)) ?_
  refine sgo ?_
  refine T_cond rfl ?_ ?_ <;> intro h122
  · skip
    have hw : wrdB x.op = true := h122
    rw [if_pos hw] at hla
    refine tx ?_
    refine s1 (yF fa24_5) ?_
    refine s1 (yL 1 Tryz.underlying9) ?_
    refine s1 (y_call rfl rfl rfl cf66 (fun _ w _ => checkText_any _ w)) ?_
    refine sr 1 ?_
    refine sgx ?_
    refine sr 2 ?_
    refine sgo ?_
    refine T_cond rfl ?_ ?_ <;> intro h127
    · skip
      have hn0 : txtNo x.tx ≠ 0 := by simpa using h127
      have e1 : chX x = txtNo x.tx := chX_hd hla hn0
      refine tx ?_
      refine sr 2 ?_
      refine sgo ?_
      refine tr1 hRb fun w hM => ?_
      first | exact ⟨by rw [e1], hM.below⟩ | exact ⟨by rw [hch, ← hp2, hl.end (by omega)]; rfl, hM.below⟩
    have hn0 : txtNo x.tx = 0 := by simpa using h127
    have hch := chX_kids (hla.trans hn0)
    refine kgs ?_
    refine tx ?_
    refine s1 (yF fa24_1) ?_
    refine s1 (yL 1 Tryz.underlying22) ?_
    refine s1 (y_len_slice rfl rfl Tryz.underlying22) ?_
    refine sr 1 ?_
    refine sgo ?_
    refine T_block ?_
    refine lK1 (kf := [(2, 2), (7, 8), (132, 141)]) (kl := [(2, 2), (7, 8), (132, 141)]) (fun (i : Nat) => [(132, true, .int .i64 (i : Int))]) (fun (i : Nat) => []) (fun (i : Nat) => i ≤ x.q ∧ chkL (chdNo txtNo nameOk) ((x.kids.drop i).map SC.says) = chkL (chdNo txtNo nameOk) (x.kids.map SC.says)) (fun (i : Nat) => x.q - i) 0 ?_ ?_ ?_ ?_
    · exact ⟨by omega, rfl⟩
    · exact ⟨rfl, trivial⟩
    · exact trivial
    rintro i ⟨hp1, hp2⟩
    refine tx ?_
    refine sr 1 ?_
    refine sgs ?_
    refine T_cond rfl ?_ ?_ <;> intro h133
    · try simp only [nrm] at h133
      obtain ⟨k, hx1, hx2⟩ := hl.at (i := i) (by omega)
      rw [hx2, List.map_cons, chkL] at hp2
      refine kgs ?_
      refine T_block ?_
      refine tx ?_
      refine s1 (y_indexAddr rfl rfl rfl Tryz.underlying22 sz24 (fun hg => hl.isSome (by omega)) (fun _ => by omega)) ?_
      refine s1 (y_loadT rfl rfl hl (fun _ => rfl) (fun _ => hx1) Tryz.underlying24 rfl sz24) ?_
      refine S_alloc 7 7 rfl rfl rfl rfl z24 ?_
      intro b7
      refine S_store 7 rfl rfl rfl rfl rfl rfl sz24 rfl rfl ?_
      refine sgx ?_
      refine s1 (yA 7 rfl Tryz.underlying24 sz24) ?_
      refine s1 (y_call rfl rfl rfl cf34 (fun _ w1 hM => ih k (mem_at hx1) w1 ((hk k (mem_at hx1)).lift hM.below))) ?_
      refine sr 1 ?_
      refine sgx ?_
      refine sr 2 ?_
      refine sgo ?_
      refine T_cond rfl ?_ ?_ <;> intro h139
      · skip
        have hn1 : chX k ≠ 0 := by simpa using h139
        rw [if_pos hn1] at hp2
        have e1 : chX x = chX k := by rw [hch, ← hp2]
        refine tx ?_
        refine sr 2 ?_
        refine sgo ?_
        refine tr1 hRb fun w hM => ?_
        first | exact ⟨by rw [e1], hM.below⟩ | exact ⟨by rw [hch, ← hp2, hl.end (by omega)]; rfl, hM.below⟩
      have hn1 : chX k = 0 := by simpa using h139
      rw [if_neg (by rw [show chkP (chdNo txtNo nameOk) k.says = chX k from rfl, hn1]; simp)] at hp2
      refine kgr ?_
      refine s1 (y_bin rfl rfl rfl (fun hg => b_add (by omega))) ?_
      refine sr 1 ?_
      refine S_nil (nK1 (kf := [(2, 2), (7, 8), (132, 141)]) (kl := [(2, 2), (7, 8), (132, 141)]) (i + 1) ?_ ?_ ?_ ?_)
      · omega
      · exact ⟨by omega, hp2⟩
      · exact ⟨rfl, trivial⟩
      · exact trivial
    try simp only [nrm] at h133
    refine egx ?_
    refine sr 1 ?_
    refine sgo ?_
    refine tr1 hRb fun w hM => ?_
    first | exact ⟨by rw [e1], hM.below⟩ | exact ⟨by rw [hch, ← hp2, hl.end (by omega)]; rfl, hM.below⟩
  have hw : wrdB x.op = false := h122
  rw [if_neg (by rw [hw]; simp)] at hla
  have hch := chX_kids hla
  refine kgs ?_
  refine tx ?_
  refine s1 (yF fa24_1) ?_
  refine s1 (yL 1 Tryz.underlying22) ?_
  refine s1 (y_len_slice rfl rfl Tryz.underlying22) ?_
  refine sr 1 ?_
  refine sgo ?_
  refine T_block ?_
  refine lK1 (kf := [(2, 2), (7, 8), (132, 141)]) (kl := [(2, 2), (7, 8), (132, 141)]) (fun (i : Nat) => [(132, true, .int .i64 (i : Int))]) (fun (i : Nat) => []) (fun (i : Nat) => i ≤ x.q ∧ chkL (chdNo txtNo nameOk) ((x.kids.drop i).map SC.says) = chkL (chdNo txtNo nameOk) (x.kids.map SC.says)) (fun (i : Nat) => x.q - i) 0 ?_ ?_ ?_ ?_
  · exact ⟨by omega, rfl⟩
  · exact ⟨rfl, trivial⟩
  · exact trivial
  rintro i ⟨hp1, hp2⟩
  refine tx ?_
  refine sr 1 ?_
  refine sgs ?_
  refine T_cond rfl ?_ ?_ <;> intro h133
  · try simp only [nrm] at h133
    obtain ⟨k, hx1, hx2⟩ := hl.at (i := i) (by omega)
    rw [hx2, List.map_cons, chkL] at hp2
    refine kgs ?_
    refine T_block ?_
    refine tx ?_
    refine s1 (y_indexAddr rfl rfl rfl Tryz.underlying22 sz24 (fun hg => hl.isSome (by omega)) (fun _ => by omega)) ?_
    refine s1 (y_loadT rfl rfl hl (fun _ => rfl) (fun _ => hx1) Tryz.underlying24 rfl sz24) ?_
    refine S_alloc 7 7 rfl rfl rfl rfl z24 ?_
    intro b7
    refine S_store 7 rfl rfl rfl rfl rfl rfl sz24 rfl rfl ?_
    refine sgx ?_
    refine s1 (yA 7 rfl Tryz.underlying24 sz24) ?_
    refine s1 (y_call rfl rfl rfl cf34 (fun _ w1 hM => ih k (mem_at hx1) w1 ((hk k (mem_at hx1)).lift hM.below))) ?_
    refine sr 1 ?_
    refine sgx ?_
    refine sr 2 ?_
    refine sgo ?_
    refine T_cond rfl ?_ ?_ <;> intro h139
    · skip
      have hn1 : chX k ≠ 0 := by simpa using h139
      rw [if_pos hn1] at hp2
      have e1 : chX x = chX k := by rw [hch, ← hp2]
      refine tx ?_
      refine sr 2 ?_
      refine sgo ?_
      refine tr1 hRb fun w hM => ?_
      first | exact ⟨by rw [e1], hM.below⟩ | exact ⟨by rw [hch, ← hp2, hl.end (by omega)]; rfl, hM.below⟩
    have hn1 : chX k = 0 := by simpa using h139
    rw [if_neg (by rw [show chkP (chdNo txtNo nameOk) k.says = chX k from rfl, hn1]; simp)] at hp2
    refine kgr ?_
    refine s1 (y_bin rfl rfl rfl (fun hg => b_add (by omega))) ?_
    refine sr 1 ?_
    refine S_nil (nK1 (kf := [(2, 2), (7, 8), (132, 141)]) (kl := [(2, 2), (7, 8), (132, 141)]) (i + 1) ?_ ?_ ?_ ?_)
    · omega
    · exact ⟨by omega, hp2⟩
    · exact ⟨rfl, trivial⟩
    · exact trivial
  try simp only [nrm] at h133
  refine egx ?_
  refine sr 1 ?_
  refine sgo ?_
  refine tr1 hRb fun w hM => ?_
  first | exact ⟨by rw [e1], hM.below⟩ | exact ⟨by rw [hch, ← hp2, hl.end (by omega)]; rfl, hM.below⟩
theorem checkOne_any (x : SC) : OneAt x := SC.ind (Q := OneAt) one_step x
/-- the fault of a condition -/
def condNo (x : SC) : Int := if deepP 20 x.says = true then 13 else if 100 < sizeP x.says 100 then 4 else chX x
theorem CheckCond_any (x : SC) (w : World) (hok : x.Ok w) :
    Calls Tryz.prog 14 #[x.val] w fun e w' => e = .returned (.int .i64 (condNo x)) ∧ Below w.heap.size w w' := by
  refine enter_args (args := [.agg #[.int .i64 x.op, .slice x.ad x.q x.c, .int .i64 x.lo, .int .i64 x.hi, str x.nm, str x.tx]]) (F := _) Tryz.func14 rfl Tryz.ntmps14 rfl rfl ?_
  intro Rb hRb hRn
  refine tx ?_
  refine S_box 1 1 rfl rfl rfl rfl rfl ?_
  intro b1
  refine sr 1 ?_
  refine sgs ?_
  refine tx ?_
  refine s1 (yA 1 rfl Tryz.underlying24 sz24) ?_
  refine s1 (y_call rfl rfl rfl cf32 (fun _ w1 hM => tooDeep_any 20 (by decide) x w1 (hok.lift hM.below))) ?_
  refine sgo ?_
  refine T_cond rfl ?_ ?_ <;> intro h4
  · skip
    refine tx ?_
    refine sr 1 ?_
    refine sgo ?_
    refine tr1 hRb fun w hM => ?_
    exact ⟨by rw [condNo, if_pos h4], hM.below⟩
  refine kgs ?_
  refine tx ?_
  refine s1 (yA 1 rfl Tryz.underlying24 sz24) ?_
  refine s1 (y_call rfl rfl rfl cf33 (fun _ w1 hM => size_any x 100 w1 (by decide) (by decide) (hok.lift hM.below))) ?_
  refine sr 1 ?_
  refine sgo ?_
  refine T_cond rfl ?_ ?_ <;> intro h7
  · skip
    refine tx ?_
    refine sr 1 ?_
    refine sgo ?_
    refine tr1 hRb fun w hM => ?_
    exact ⟨by rw [condNo, if_neg (by rw [h4]; simp), if_pos (by simpa using h7)], hM.below⟩
  refine kgx ?_
  refine s1 (yA 1 rfl Tryz.underlying24 sz24) ?_
  refine s1 (y_call rfl rfl rfl cf34 (fun _ w1 hM => checkOne_any x w1 (hok.lift hM.below))) ?_
  refine sr 1 ?_
  refine sgo ?_
  refine tr1 hRb fun w hM => ?_
  exact ⟨by rw [condNo, if_neg (by rw [h4]; simp), if_neg (by simpa using h7)], hM.below⟩
end Go.Proofs.YtfcedlfeinnhoaaGreatDoor
end
section
namespace Go.Proofs.YtfcedlfeinnhoaaGreatDoor
set_option linter.unusedSimpArgs false
set_option linter.unusedVariables false
set_option maxRecDepth 20000
open Go.RowKit Go.Eng
def lowN (n : Nat) : Nat := if 65 ≤ n ∧ n ≤ 90 then n + 32 else n
def eqL (a b : UInt8) : Bool := decide (((lowN a.toNat : Nat) : Int) = ((lowN b.toNat : Nat) : Int))
theorem lower_any (n : Nat) (hn : n < 256) (w : World) :
    Calls Tryz.prog 36 #[.int .u8 (n : Int)] w fun e w' => e = .returned (.int .u8 ((lowN n : Nat) : Int)) ∧ Below w.heap.size w w' := by
  refine enter_args (args := [.int .u8 (n : Int)]) (F := _) Tryz.func36 rfl Tryz.ntmps36 rfl rfl ?_
  intro Rb hRb hRn
  refine tx ?_
  refine sr 1 ?_
  refine sgs ?_
  refine tx ?_
  refine sr 3 ?_
  refine sg rfl (y_move rfl rfl) ?_
  refine sg rfl (y_bin rfl rfl rfl (fun _ => b_leq)) ?_
  refine s1 (y_and rfl rfl rfl) ?_
  refine sgo ?_
  refine T_cond rfl ?_ ?_ <;> intro h8
  · skip
    have h8 : 65 ≤ n ∧ n ≤ 90 := by simp only [Bool.and_eq_true, decide_eq_true_eq] at h8; omega
    refine tx ?_
    refine sr 1 ?_
    refine s1 (y_bin rfl rfl rfl (fun hg => b_addw)) ?_
    refine s1 (y_bin rfl rfl rfl (fun hg => b_subw)) ?_
    refine sr 1 ?_
    refine sgo ?_
    refine tr1 hRb fun w hM => ?_
    exact ⟨by rw [lowN, if_pos h8]; congr 2; simp [IntKind.wrap, IntKind.signed, IntKind.bits]; omega, hM.below⟩
  have h8 : ¬ (65 ≤ n ∧ n ≤ 90) := by intro h; simp at h8; omega
  refine kgx ?_
  refine sr 2 ?_
  refine sgo ?_
  refine tr1 hRb fun w hM => ?_
  exact ⟨by rw [lowN, if_neg h8], hM.below⟩
def stI (st : Option Nat) : Int := st.elim (-1) fun j => (j : Int)
theorem Tried.mk_le {e : UInt8 → UInt8 → Bool} {p s : List UInt8} {i k mk : Nat} {st : Option Nat} (h : Tried e p s i k st mk) : mk ≤ k := by
  cases st with
  | none => rw [h.no rfl]; exact Nat.zero_le _
  | some j => have := (h.hst j rfl).2.1; omega
theorem lit_star {p : List UInt8} {i : Nat} (h : (decide (((i : Nat) : Int) < ((p.length : Nat) : Int)) && decide ((((p.getD i 0).toNat : Nat) : Int) = 42)) = true) : i < p.length ∧ p.getD i 0 = 42 := by
  simp only [Bool.and_eq_true, decide_eq_true_eq] at h
  exact ⟨by omega, UInt8.toNat_inj.1 (by show (p.getD i 0).toNat = 42; omega)⟩
theorem lit_no {p : List UInt8} {i : Nat} (h : (decide (((i : Nat) : Int) < ((p.length : Nat) : Int)) && decide ((((p.getD i 0).toNat : Nat) : Int) = 42)) = false) : i < p.length → p.getD i 0 ≠ 42 := by
  intro hi e
  rw [decide_eq_true (by omega), Bool.true_and, decide_eq_false_iff_not] at h
  exact h (by rw [e]; rfl)
theorem mu_star {a b c d e C : Nat} (h : a ≤ b) (h2 : d + 1 ≤ e) : (c - b) * C + (e - (d + 1)) < (c - a) * C + (e - d) := by
  have : (c - b) * C ≤ (c - a) * C := Nat.mul_le_mul_right C (by omega)
  omega
theorem mu_back {m c C x y : Nat} (h : m + 1 ≤ c) (hx : x < C) : (c - (m + 1)) * C + x < (c - m) * C + y := by
  have : (c - m) * C = (c - (m + 1)) * C + C := by rw [show c - m = (c - (m + 1)) + 1 by omega, Nat.succ_mul]
  omega
theorem dropWhile_nilF {p : UInt8 → Bool} : ∀ {l : List UInt8}, l.dropWhile p = [] → ∀ c ∈ l, p c = true
  | [], _ => fun c h => by cases h
  | a :: r, h => fun c hc => by
    rw [List.dropWhile_cons] at h
    split at h
    · rcases List.mem_cons.1 hc with rfl | hc
      · assumption
      · exact dropWhile_nilF h c hc
    · cases h
theorem dropWhile_headF {p : UInt8 → Bool} : ∀ {l : List UInt8} {y : UInt8} {t : List UInt8}, l.dropWhile p = y :: t → p y = false
  | [], y, t, h => by simp at h
  | a :: r, y, t, h => by
    rw [List.dropWhile_cons] at h
    split at h
    · exact dropWhile_headF h
    · rename_i hp
      obtain ⟨rfl, _⟩ := List.cons.inj h
      simpa using hp
theorem trimS_nilF {s cs : List UInt8} (h : Lib.trimS s cs = []) : ∀ c ∈ s, cs.contains c = true := by
  have h1 := dropWhile_nilF (l := Lib.trimRightS s cs) h
  have h2 : s.reverse.dropWhile (cs.contains ·) = [] := by
    cases hq : s.reverse.dropWhile (cs.contains ·) with
    | nil => rfl
    | cons y t =>
      have h3 := dropWhile_headF hq
      have h4 := h1 y (by unfold Lib.trimRightS; rw [hq]; simp)
      rw [h3] at h4; cases h4
  intro c hc
  exact dropWhile_nilF h2 c (List.mem_reverse.2 hc)
theorem dropWhile_allF {p : UInt8 → Bool} : ∀ {l : List UInt8}, (∀ c ∈ l, p c = true) → l.dropWhile p = []
  | [], _ => rfl
  | a :: r, h => by rw [List.dropWhile_cons, if_pos (h a (List.mem_cons_self ..)), dropWhile_allF fun c hc => h c (List.mem_cons_of_mem _ hc)]
theorem trimS_allF {s cs : List UInt8} (h : ∀ c ∈ s, cs.contains c = true) : Lib.trimS s cs = [] := by
  have h2 : s.reverse.dropWhile (cs.contains ·) = [] := dropWhile_allF fun c hc => h c (List.mem_reverse.1 hc)
  have h3 : Lib.trimRightS s cs = [] := by unfold Lib.trimRightS; rw [h2]; rfl
  unfold Lib.trimS; rw [h3]; rfl
theorem all_trim (s : List UInt8) : decide (Lib.trimS s [42] = []) = s.all fun c => decide (c = 42) := by
  rw [Bool.eq_iff_iff, decide_eq_true_eq, List.all_eq_true]
  constructor
  · intro h c hc
    have := trimS_nilF h c hc
    simpa using this
  · intro h
    exact trimS_allF fun c hc => by have := h c hc; simpa using this
theorem Fits_any (p s : List UInt8) (w : World) (hp : p.length ≤ 1000000000) (hs : s.length ≤ 4611686018427387904) :
    Calls Tryz.prog 19 #[str p, str s] w fun e w' => e = .returned (.bool (gm eqL p s)) ∧ Below w.heap.size w w' := by
  refine enter_args (args := [str p, str s]) (F := _) Tryz.func19 rfl Tryz.ntmps19 rfl rfl ?_
  intro Rb hRb hRn
  refine tx ?_
  refine sr 1 ?_
  refine sgx ?_
  refine sr 3 ?_
  refine sgs ?_
  refine tx ?_
  refine sr 1 ?_
  refine sgo ?_
  refine T_block ?_
  refine lK4 (kf := [(4, 55)]) (kl := [(4, 55)]) (fun (i : Nat) (k : Nat) (st : Option Nat) (mk : Nat) => [(5, true, .int .i64 (i : Int)), (6, true, .int .i64 (stI st)), (7, true, .int .i64 (mk : Int)), (8, true, .int .i64 (k : Int))]) (fun (i : Nat) (k : Nat) (st : Option Nat) (mk : Nat) => []) (fun (i : Nat) (k : Nat) (st : Option Nat) (mk : Nat) => Tried eqL p s i k st mk) (fun (i : Nat) (k : Nat) (st : Option Nat) (mk : Nat) => (s.length - mk) * (p.length + s.length + 2) + ((p.length + s.length + 1) - (i + k))) 0 0 none 0 ?_ ?_ ?_ ?_
  · exact Tried.start p s
  · exact ⟨rfl, rfl, rfl, rfl, trivial⟩
  · exact trivial
  rintro i k st mk ht
  refine T_seq ?_
  refine tx ?_
  refine sr 2 ?_
  refine s1 (y_len_str rfl rfl Tryz.underlying9) ?_
  refine sr 1 ?_
  refine sgo ?_
  refine T_cond rfl ?_ ?_ <;> intro h12
  · try simp only [nrm] at h12
    have hk : k < s.length := by omega
    have hmk := ht.mk_le
    have hil := ht.hi
    refine kgo ?_
    refine T_block ?_
    refine T_block ?_
    refine tx ?_
    refine sr 2 ?_
    refine s1 (y_len_str rfl rfl Tryz.underlying9) ?_
    refine sr 2 ?_
    refine sg rfl (y_move rfl rfl) ?_
    refine sg rfl (y_move rfl rfl) ?_
    refine sg rfl (y_index_str rfl rfl rfl Tryz.underlying9 (fun hg => by simp only [Bool.true_and, Bool.and_eq_true, beq_iff_eq, decide_eq_true_eq, decide_eq_false_iff_not, Int.not_lt, Int.not_le] at hg; omega)) ?_
    refine sg rfl (y_bin rfl rfl rfl (fun _ => b_eql)) ?_
    refine s1 (y_and rfl rfl rfl) ?_
    refine sr 1 ?_
    refine sgo ?_
    refine T_cond rfl ?_ ?_ <;> intro h13
    · skip
      have hi : i < p.length ∧ p.getD i 0 = 42 := lit_star h13
      refine tx ?_
      refine sr 4 ?_
      refine sgr ?_
      refine sr 1 ?_
      refine s1 (y_bin rfl rfl rfl (fun hg => b_add (by omega))) ?_
      refine sr 1 ?_
      refine S_nil (nK4 (kf := [(4, 55)]) (kl := [(4, 55)]) (i + 1) k (some i) k ?_ ?_ ?_ ?_)
      · simpa only [show i + 1 + k = i + k + 1 by omega] using mu_star (C := p.length + s.length + 2) (c := s.length) (d := i + k) (e := p.length + s.length + 1) hmk (by omega)
      · exact ht.star hi.1 hi.2
      · exact ⟨rfl, rfl, rfl, rfl, trivial⟩
      · exact trivial
    have hns : i < p.length → p.getD i 0 ≠ 42 := lit_no h13
    refine T_seq ?_
    refine T_draws (by kernel_rfl) (by kernel_rfl) ?_
    refine d1 (y_move rfl rfl) ?_
    refine d1 (y_move rfl rfl) ?_
    refine d1 (y_len_str rfl rfl Tryz.underlying9) ?_
    refine d1 (y_bin rfl rfl rfl (fun _ => b_lss)) ?_
    refine d1 (y_move rfl rfl) ?_
    refine dg rfl (y_move rfl rfl) ?_
    refine dg rfl (y_move rfl rfl) ?_
    refine dg rfl (y_index_str rfl rfl rfl Tryz.underlying9 (fun hg => by simp only [Bool.true_and, Bool.and_eq_true, beq_iff_eq, decide_eq_true_eq, decide_eq_false_iff_not, Int.not_lt, Int.not_le] at hg; omega)) ?_
    refine dg rfl (y_call rfl rfl rfl cf36 (fun _ w _ => lower_any _ (UInt8.toNat_lt _) w)) ?_
    refine dg rfl (y_move rfl rfl) ?_
    refine dg rfl (y_move rfl rfl) ?_
    refine dg rfl (y_index_str rfl rfl rfl Tryz.underlying9 (fun hg => by simp only [Bool.true_and, Bool.and_eq_true, beq_iff_eq, decide_eq_true_eq, decide_eq_false_iff_not, Int.not_lt, Int.not_le] at hg; omega)) ?_
    refine dg rfl (y_call rfl rfl rfl cf36 (fun _ w _ => lower_any _ (UInt8.toNat_lt _) w)) ?_
    refine dg rfl (y_bin rfl rfl rfl (fun _ => b_eql)) ?_
    refine d1 (y_and rfl rfl rfl) ?_
    refine d1 (y_assign rfl rfl) ?_
    refine dgo ?_
    refine T_cond rfl ?_ ?_ <;> intro h28
    · skip
      have hi : i < p.length ∧ eqL (p.getD i 0) (s.getD k 0) = true := by simp only [Bool.and_eq_true, decide_eq_true_eq] at h28; exact ⟨by omega, decide_eq_true h28.2⟩
      refine tx ?_
      refine sr 1 ?_
      refine s1 (y_bin rfl rfl rfl (fun hg => b_add (by omega))) ?_
      refine sr 1 ?_
      refine sgr ?_
      refine sr 1 ?_
      refine s1 (y_bin rfl rfl rfl (fun hg => b_add (by omega))) ?_
      refine sr 1 ?_
      refine S_nil (nK4 (kf := [(4, 55)]) (kl := [(4, 55)]) (i + 1) (k + 1) st mk ?_ ?_ ?_ ?_)
      · omega
      · exact ht.lit hi.1 hk (hns hi.1) hi.2
      · exact ⟨rfl, rfl, rfl, rfl, trivial⟩
      · exact trivial
    have hno : i < p.length → p.getD i 0 ≠ 42 ∧ eqL (p.getD i 0) (s.getD k 0) = false := fun h => ⟨hns h, by rw [decide_eq_true (show ((i : Nat) : Int) < p.length by omega), Bool.true_and] at h28; exact h28⟩
    refine tx ?_
    refine sr 3 ?_
    refine sgo ?_
    refine T_cond rfl ?_ ?_ <;> intro h48
    · skip
      obtain ⟨j, rfl⟩ : ∃ j, st = some j := by cases st with
        | none => simp [stI] at h48 <;> omega
        | some j => exact ⟨j, rfl⟩
      have hji := (ht.hst j rfl).1
      refine tx ?_
      refine sr 1 ?_
      refine s1 (y_bin rfl rfl rfl (fun hg => b_add (by omega))) ?_
      refine sr 1 ?_
      refine sgr ?_
      refine s1 (y_as (v' := .int .i64 ((j : Nat) : Int)) (by exact rfl) (y_move rfl rfl)) ?_
      refine s1 (y_bin rfl rfl rfl (fun hg => b_add (by omega))) ?_
      refine sr 3 ?_
      refine S_nil (nK4 (kf := [(4, 55)]) (kl := [(4, 55)]) (j + 1) (mk + 1) (some j) (mk + 1) ?_ ?_ ?_ ?_)
      · exact mu_back (by omega) (by omega)
      · exact ht.back hk hno
      · exact ⟨rfl, rfl, rfl, rfl, trivial⟩
      · exact trivial
    have hst : st = none := by cases st with
      | none => rfl
      | some j => simp [stI] at h48 <;> omega
    subst hst
    refine tx ?_
    refine sr 1 ?_
    refine sgo ?_
    refine tr1 hRb fun w hM => ?_
    exact ⟨by rw [ht.fail hk hno], hM.below⟩
  try simp only [nrm] at h12
  have hk : s.length ≤ k := by omega
  have hil := ht.hi
  refine egx ?_
  refine sr 2 ?_
  refine s1 (y_strFrom rfl rfl rfl Tryz.underlying9 (fun _ => by omega)) ?_
  refine s1 (y_call rfl rfl rfl cf37 (fun _ w _ => Any.strings_Trim_laid Tryz.lays160 (by kernel_rfl) ⟨(p.drop i).toArray⟩ ⟨([42] : List UInt8).toArray⟩ w (by rw [Lib.size_eq]; simp; omega) (by decide) (ascii_of_all (by decide)))) ?_
  refine s1 (y_bin rfl rfl rfl (fun _ => b_eqls)) ?_
  refine sr 1 ?_
  refine sgo ?_
  refine tr1 hRb fun w hM => ?_
  exact ⟨by rw [ht.done hk, ← all_trim], hM.below⟩
end Go.Proofs.YtfcedlfeinnhoaaGreatDoor
end
section
namespace Go.Proofs.YtfcedlfeinnhoaaGreatDoor
set_option linter.unusedSimpArgs false
set_option linter.unusedVariables false
set_option maxRecDepth 20000
open Go.RowKit Go.Eng
theorem nam_eq (c : UInt8) : (decide ((97 : Int) ≤ ((c.toNat : Nat) : Int)) && decide (((c.toNat : Nat) : Int) ≤ 122) || (decide ((48 : Int) ≤ ((c.toNat : Nat) : Int)) && decide (((c.toNat : Nat) : Int) ≤ 57)) || decide (((c.toNat : Nat) : Int) = 45) || decide (((c.toNat : Nat) : Int) = 46) || decide (((c.toNat : Nat) : Int) = 95)) = qNam c := by
  unfold qNam qLet qDig
  have e : ∀ n m : Nat, decide ((n : Int) = (m : Int)) = decide (n = m) := fun n m => decide_eq_decide.2 (by omega)
  rw [show (45 : Int) = ((45 : Nat) : Int) from rfl, show (46 : Int) = ((46 : Nat) : Int) from rfl, show (95 : Int) = ((95 : Nat) : Int) from rfl, e, e, e]
theorem isNameByte_any (c : UInt8) (w : World) :
    Calls Tryz.prog 103 #[.int .u8 ((c.toNat : Nat) : Int)] w fun e w' => e = .returned (.bool (qNam c)) ∧ Below w.heap.size w w' := by
  refine enter_args (args := [.int .u8 ((c.toNat : Nat) : Int)]) (F := _) Tryz.func103 rfl Tryz.ntmps103 rfl rfl ?_
  intro Rb hRb hRn
  refine tx ?_
  refine sr 1 ?_
  refine sgx ?_
  refine sr 3 ?_
  refine sg rfl (y_move rfl rfl) ?_
  refine sg rfl (y_bin rfl rfl rfl (fun _ => b_leq)) ?_
  refine s1 (y_and rfl rfl rfl) ?_
  refine sr 1 ?_
  refine sg rfl (y_move rfl rfl) ?_
  refine sg rfl (y_bin rfl rfl rfl (fun _ => b_geq)) ?_
  refine sg rfl (y_move rfl rfl) ?_
  refine sg rfl (y_move rfl rfl) ?_
  refine sg rfl (y_bin rfl rfl rfl (fun _ => b_leq)) ?_
  refine sg rfl (y_and rfl rfl rfl) ?_
  refine s1 (y_or rfl rfl rfl) ?_
  refine sr 1 ?_
  refine sg rfl (y_move rfl rfl) ?_
  refine sg rfl (y_bin rfl rfl rfl (fun _ => b_eql)) ?_
  refine s1 (y_or rfl rfl rfl) ?_
  refine sr 1 ?_
  refine sg rfl (y_move rfl rfl) ?_
  refine sg rfl (y_bin rfl rfl rfl (fun _ => b_eql)) ?_
  refine s1 (y_or rfl rfl rfl) ?_
  refine sr 1 ?_
  refine sg rfl (y_move rfl rfl) ?_
  refine sg rfl (y_bin rfl rfl rfl (fun _ => b_eql)) ?_
  refine s1 (y_as (v' := .bool (qNam c)) (by exact congrArg Value.bool (nam_eq c)) (y_or rfl rfl rfl)) ?_
  refine sr 1 ?_
  refine sgo ?_
  refine tr1 hRb fun w hM => ?_
  exact ⟨rfl, hM.below⟩
theorem more_any (d : List UInt8) (w : World) :
    Calls Tryz.prog 121 #[str d] w fun e w' => e = .returned (.bool (moreQ d)) ∧ Below w.heap.size w w' := by
  refine enter_args (args := [str d]) (F := _) Tryz.func121 rfl Tryz.ntmps121 rfl rfl ?_
  intro Rb hRb hRn
  refine tx ?_
  refine sr 1 ?_
  refine sgx ?_
  refine sr 1 ?_
  refine s1 (y_bin rfl rfl rfl (fun _ => b_neqs)) ?_
  refine sr 1 ?_
  refine sg rfl (y_move rfl rfl) ?_
  refine sg rfl (y_len_str rfl rfl Tryz.underlying9) ?_
  refine sg rfl (y_bin rfl rfl rfl (fun _ => b_lss)) ?_
  refine s1 (y_as (v' := .bool (moreQ d)) (by exact congrArg Value.bool (by unfold moreQ; congr 1; exact decide_eq_decide.2 (by omega))) (y_and rfl rfl rfl)) ?_
  refine sr 1 ?_
  refine sgo ?_
  refine tr1 hRb fun w hM => ?_
  exact ⟨rfl, hM.below⟩
theorem bar_all : ∀ n : Nat, n < 256 → (decide ((48 : Int) ≤ ((n : Nat) : Int)) && decide (((n : Nat) : Int) ≤ 57) || (decide ((97 : Int) ≤ ((lowN n : Nat) : Int)) && decide (((lowN n : Nat) : Int) ≤ 122)) || decide ((0 : Int) ≤ Lib.indexByte qSig (UInt8.ofNat n))) = qBar (UInt8.ofNat n) := by decide +kernel
theorem bar_eq (c : UInt8) : (decide ((48 : Int) ≤ ((c.toNat : Nat) : Int)) && decide (((c.toNat : Nat) : Int) ≤ 57) || (decide ((97 : Int) ≤ ((lowN c.toNat : Nat) : Int)) && decide (((lowN c.toNat : Nat) : Int) ≤ 122)) || decide ((0 : Int) ≤ Lib.indexByte qSig c)) = qBar c := by
  have h := bar_all c.toNat (UInt8.toNat_lt c)
  rwa [UInt8.ofNat_toNat] at h
theorem isBare_any (c : UInt8) (w : World) :
    Calls Tryz.prog 102 #[.int .u8 ((c.toNat : Nat) : Int)] w fun e w' => e = .returned (.bool (qBar c)) ∧ Below w.heap.size w w' := by
  refine enter_args (args := [.int .u8 ((c.toNat : Nat) : Int)]) (F := _) Tryz.func102 rfl Tryz.ntmps102 rfl rfl ?_
  intro Rb hRb hRn
  refine tx ?_
  refine sr 1 ?_
  refine sgx ?_
  refine sr 3 ?_
  refine sg rfl (y_move rfl rfl) ?_
  refine sg rfl (y_bin rfl rfl rfl (fun _ => b_leq)) ?_
  refine s1 (y_and rfl rfl rfl) ?_
  refine sr 1 ?_
  refine sg rfl (y_move rfl rfl) ?_
  refine sg rfl (y_call rfl rfl rfl cf36 (fun _ w _ => lower_any _ (UInt8.toNat_lt _) w)) ?_
  refine sg rfl (y_bin rfl rfl rfl (fun _ => b_geq)) ?_
  refine sg rfl (y_move rfl rfl) ?_
  refine sg rfl (y_move rfl rfl) ?_
  refine sg rfl (y_call rfl rfl rfl cf36 (fun _ w _ => lower_any _ (UInt8.toNat_lt _) w)) ?_
  refine sg rfl (y_bin rfl rfl rfl (fun _ => b_leq)) ?_
  refine sg rfl (y_and rfl rfl rfl) ?_
  refine s1 (y_or rfl rfl rfl) ?_
  refine sr 1 ?_
  refine sg rfl (y_move rfl rfl) ?_
  refine sg rfl (y_call rfl rfl rfl cf110 (fun _ w _ => IndexByte_any _ _ w)) ?_
  refine sg rfl (y_bin rfl rfl rfl (fun _ => b_geq)) ?_
  refine s1 (y_as (v' := .bool (qBar c)) (by exact congrArg Value.bool (bar_eq c)) (y_or rfl rfl rfl)) ?_
  refine sr 1 ?_
  refine sgo ?_
  refine tr1 hRb fun w hM => ?_
  exact ⟨rfl, hM.below⟩
theorem drQ {s : List UInt8} {i : Nat} (h : i < s.length) : s.drop i = s.getD i 0 :: s.drop (i + 1) := by
  rw [List.drop_eq_getElem_cons h]; simp [h]
/-- bare by its first test and its bytes -/
theorem bare_no {s : List UInt8} (h : (decide (s = []) || decide (((s.getD 0 0).toNat : Int) = 45) || decide (s = kOr)) = true) : bareQ s = false := by
  simp only [Bool.or_eq_true, decide_eq_true_eq] at h
  rcases h with (h | h) | h
  · simp [bareQ, h]
  · have : s.getD 0 0 = 45 := UInt8.toNat_inj.1 (by show (s.getD 0 0).toNat = 45; omega)
    unfold bareQ; rw [this]; simp
  · simp [bareQ, h]
theorem bare_rest {s : List UInt8} (h : (decide (s = []) || decide (((s.getD 0 0).toNat : Int) = 45) || decide (s = kOr)) = false) : bareQ s = s.all qBar := by
  simp only [Bool.or_eq_false_iff, decide_eq_false_iff_not] at h
  obtain ⟨⟨h1, h2⟩, h3⟩ := h
  have : s.getD 0 0 ≠ 45 := fun e => h2 (by rw [e]; rfl)
  unfold bareQ
  rw [decide_eq_false h1, decide_eq_false this, decide_eq_false h3]
  rfl
theorem bare_any (s : List UInt8) (hs : s.length ≤ 1000000000000) (w : World) :
    Calls Tryz.prog 79 #[str s] w fun e w' => e = .returned (.bool (bareQ s)) ∧ Below w.heap.size w w' := by
  refine enter_args (args := [str s]) (F := _) Tryz.func79 rfl Tryz.ntmps79 rfl rfl ?_
  intro Rb hRb hRn
  refine tx ?_
  refine sr 1 ?_
  refine sgs ?_
  refine tx ?_
  refine sr 1 ?_
  refine s1 (y_bin rfl rfl rfl (fun _ => b_eqls)) ?_
  refine sr 1 ?_
  refine sg rfl (y_move rfl rfl) ?_
  refine sg rfl (y_index_str (j := 0) rfl rfl rfl Tryz.underlying9 (fun hg => by simp at hg; exact List.length_pos_iff.2 hg)) ?_
  refine sg rfl (y_bin rfl rfl rfl (fun _ => b_eql)) ?_
  refine s1 (y_or rfl rfl rfl) ?_
  refine sr 1 ?_
  refine sg rfl (y_move rfl rfl) ?_
  refine sg rfl (y_bin rfl rfl rfl (fun _ => b_eqls)) ?_
  refine s1 (y_or rfl rfl rfl) ?_
  refine sgo ?_
  refine T_cond rfl ?_ ?_ <;> intro h14
  · skip
    refine tx ?_
    refine sr 1 ?_
    refine sgo ?_
    refine tr1 hRb fun w hM => ?_
    exact ⟨by rw [bare_no h14], hM.below⟩
  refine kgs ?_
  refine tx ?_
  refine sr 1 ?_
  refine s1 (y_len_str rfl rfl Tryz.underlying9) ?_
  refine sr 1 ?_
  refine sgo ?_
  refine T_block ?_
  refine lK1 (kf := [(2, 3), (17, 25)]) (kl := [(2, 3), (17, 25)]) (fun (i : Nat) => [(17, true, .int .i64 (i : Int))]) (fun (i : Nat) => []) (fun (i : Nat) => i ≤ s.length ∧ s.all qBar = (s.drop i).all qBar) (fun (i : Nat) => s.length - i) 0 ?_ ?_ ?_ ?_
  · exact ⟨by omega, rfl⟩
  · exact ⟨rfl, trivial⟩
  · exact trivial
  rintro i ⟨hp1, hp2⟩
  refine tx ?_
  refine sr 1 ?_
  refine sgs ?_
  refine T_cond rfl ?_ ?_ <;> intro h18
  · try simp only [nrm] at h18
    refine kgs ?_
    refine T_block ?_
    refine tx ?_
    refine sr 2 ?_
    refine sgx ?_
    refine sr 2 ?_
    refine s1 (y_index_str rfl rfl rfl Tryz.underlying9 (fun _ => by omega)) ?_
    refine s1 (y_call rfl rfl rfl cf102 (fun _ w _ => isBare_any _ w)) ?_
    refine sr 1 ?_
    refine sgo ?_
    refine T_cond rfl ?_ ?_ <;> intro h24
    · skip
      refine tx ?_
      refine sr 1 ?_
      refine sgo ?_
      refine tr1 hRb fun w hM => ?_
      refine ⟨?_, hM.below⟩
      rw [bare_rest h14, hp2, drQ (by omega : i < s.length), List.all_cons]
      rw [Bool.not_eq_true'] at h24; rw [h24]; rfl
    refine kgr ?_
    refine s1 (y_bin rfl rfl rfl (fun hg => b_add (by omega))) ?_
    refine sr 1 ?_
    refine S_nil (nK1 (kf := [(2, 3), (17, 25)]) (kl := [(2, 3), (17, 25)]) (i + 1) ?_ ?_ ?_ ?_)
    · omega
    · refine ⟨by omega, ?_⟩
      rw [hp2, drQ (by omega : i < s.length), List.all_cons]
      rw [Bool.not_eq_false'] at h24; rw [h24]; rfl
    · exact ⟨rfl, trivial⟩
    · exact trivial
  try simp only [nrm] at h18
  refine egx ?_
  refine sr 1 ?_
  refine sgo ?_
  refine tr1 hRb fun w hM => ?_
  refine ⟨?_, hM.below⟩
  rw [bare_rest h14, hp2, List.drop_of_length_le (by omega)]; rfl
end Go.Proofs.YtfcedlfeinnhoaaGreatDoor
end
section
namespace Go.Proofs.YtfcedlfeinnhoaaGreatDoor
set_option linter.unusedSimpArgs false
set_option linter.unusedVariables false
set_option maxRecDepth 20000
open Go.RowKit Go.Eng
abbrev selfQ (b : Nat) : Value := .pointer (some ⟨b, 0, none⟩)
def wI (w : Option Nat) : Int := w.elim (-1) fun k => (k : Int)
abbrev rdN (b : Nat) (s : List UInt8) (p : Nat) (v : Int) : It := .blk b (IsBox [str s, .int .i64 (p : Int), .int .i64 v] 46)
abbrev rdI (b : Nat) (s : List UInt8) (r : QS) : It := rdN b s r.p (wI r.w)
theorem wI_neg (w : Option Nat) : decide (wI w < 0) = decide (w = none) := by
  cases w with
  | none => rfl
  | some k => exact decide_eq_false (by show ¬ (k : Int) < 0; omega)
theorem fail_any {w0 : World} {K : HL} (hK : FromK K) (b : Nat) (s : List UInt8) (r : QS) (k : Nat) (w : World) (hM0 : Mem w0 ([(901, rdI b s r)] ++ K) w) :
    Calls Tryz.prog 44 #[selfQ b, .int .i64 (k : Int)] w fun e w' => ∃ z : Unit, e = .returned (.tuple #[]) ∧ True ∧ Mem w0 ([(901, rdI b s (failQ r k))] ++ K) w' := by
  obtain ⟨p, wr⟩ := r
  refine enterM_args (args := [selfQ b, .int .i64 (k : Int)]) (F := _) hM0 Tryz.func44 rfl Tryz.ntmps44 rfl rfl ?_
  intro Rb hRb hRn
  refine tx ?_
  refine sr 1 ?_
  refine s1 (y_nilCheck rfl rfl) ?_
  refine s1 (yF fa46_2) ?_
  refine s1 (yL 901 Tryz.underlying3) ?_
  refine s1 (y_as (v' := .bool (decide (wr = none))) (by exact congrArg Value.bool (wI_neg wr)) (y_bin rfl rfl rfl (fun _ => b_lss))) ?_
  refine sgo ?_
  refine T_cond rfl ?_ ?_ <;> intro h8
  · skip
    have e : wr = none := by simpa using h8
    subst e
    refine T_region ?_
    refine sr 2 ?_
    refine s1 (y_nilCheck rfl rfl) ?_
    refine s1 (yF fa46_2) ?_
    refine S_store 901 rfl rfl rfl rfl rfl rfl sz3 rfl rfl ?_
    refine S_nil (fun a w hF hM => hRn a w (post0 rfl (fun w hM => ?_) a w hF hM))
    exact ⟨(), rfl, trivial, hM.keep (ks := [(0, 999)]) (by repeat (first | exact kl_rest (by assumption) rfl | (apply kl_in; focus rfl))) _ ⟨rfl, trivial⟩⟩
  have e : ∃ j, wr = some j := by cases wr with
    | none => simp at h8
    | some j => exact ⟨j, rfl⟩
  obtain ⟨j, e⟩ := e
  subst e
  refine T_skip (fun a w hF hM => hRn a w (post0 rfl (fun w hM => ?_) a w hF hM))
  exact ⟨(), rfl, trivial, hM.keep (ks := [(0, 999)]) (by repeat (first | exact kl_rest (by assumption) rfl | (apply kl_in; focus rfl))) _ ⟨rfl, trivial⟩⟩
theorem is_eq (s : List UInt8) (r : QS) (c : UInt8) : (decide (wI r.w < 0) && decide ((r.p : Int) < ((s.length : Nat) : Int)) && decide ((((s.getD r.p 0).toNat : Nat) : Int) = ((c.toNat : Nat) : Int))) = isQ s r c := by
  unfold isQ
  rw [wI_neg]
  congr 1
  · congr 1; exact decide_eq_decide.2 (by omega)
  · exact decide_eq_decide.2 ⟨fun h => UInt8.toNat_inj.1 (by omega), fun h => by rw [h]⟩
theorem is_any {w0 : World} {K : HL} (hK : FromK K) (b : Nat) (s : List UInt8) (r : QS) (c : UInt8) (w : World) (hM0 : Mem w0 ([(901, rdI b s r)] ++ K) w) :
    Calls Tryz.prog 40 #[selfQ b, .int .u8 ((c.toNat : Nat) : Int)] w fun e w' => ∃ z : Unit, e = .returned (.bool (isQ s r c)) ∧ True ∧ Mem w0 ([(901, rdI b s r)] ++ K) w' := by
  refine enterM_args (args := [selfQ b, .int .u8 ((c.toNat : Nat) : Int)]) (F := _) hM0 Tryz.func40 rfl Tryz.ntmps40 rfl rfl ?_
  intro Rb hRb hRn
  refine tx ?_
  refine sr 1 ?_
  refine sgs ?_
  refine T_draws (by kernel_rfl) (by kernel_rfl) ?_
  refine d1 (y_move rfl rfl) ?_
  refine d1 (y_nilCheck rfl rfl) ?_
  refine d1 (yF fa46_2) ?_
  refine d1 (yL 901 Tryz.underlying3) ?_
  refine d1 (y_bin rfl rfl rfl (fun _ => b_lss)) ?_
  refine d1 (y_move rfl rfl) ?_
  refine dg rfl (y_move rfl rfl) ?_
  refine dg rfl (y_nilCheck rfl rfl) ?_
  refine dg rfl (yF fa46_1) ?_
  refine dg rfl (yL 901 Tryz.underlying3) ?_
  refine dg rfl (y_move rfl rfl) ?_
  refine dg rfl (y_nilCheck rfl rfl) ?_
  refine dg rfl (yF fa46_0) ?_
  refine dg rfl (yL 901 Tryz.underlying9) ?_
  refine dg rfl (y_len_str rfl rfl Tryz.underlying9) ?_
  refine dg rfl (y_bin rfl rfl rfl (fun _ => b_lss)) ?_
  refine d1 (y_and rfl rfl rfl) ?_
  refine d1 (y_move rfl rfl) ?_
  refine dg rfl (y_move rfl rfl) ?_
  refine dg rfl (y_nilCheck rfl rfl) ?_
  refine dg rfl (yF fa46_0) ?_
  refine dg rfl (yL 901 Tryz.underlying9) ?_
  refine dg rfl (y_move rfl rfl) ?_
  refine dg rfl (y_nilCheck rfl rfl) ?_
  refine dg rfl (yF fa46_1) ?_
  refine dg rfl (yL 901 Tryz.underlying3) ?_
  refine dg rfl (y_index_str rfl rfl rfl Tryz.underlying9 (fun hg => by simp only [Bool.true_and, Bool.and_eq_true, beq_iff_eq, decide_eq_true_eq, decide_eq_false_iff_not, Int.not_lt, Int.not_le] at hg; omega)) ?_
  refine dg rfl (y_move rfl rfl) ?_
  refine dg rfl (y_bin rfl rfl rfl (fun _ => b_eql)) ?_
  refine d1 (y_as (v' := .bool (isQ s r c)) (by exact congrArg Value.bool (is_eq s r c)) (y_and rfl rfl rfl)) ?_
  refine d1 (y_assign rfl rfl) ?_
  refine dgo ?_
  refine tr1 hRb fun w hM => ?_
  exact ⟨(), rfl, trivial, hM.keep (ks := [(0, 999)]) (by repeat (first | exact kl_rest (by assumption) rfl | (apply kl_in; focus rfl))) _ ⟨rfl, trivial⟩⟩
theorem isQ_t {s : List UInt8} {r : QS} {c : UInt8} (h : isQ s r c = true) : r.w = none ∧ r.p < s.length ∧ s.getD r.p 0 = c := by
  unfold isQ at h
  simp only [Bool.and_eq_true, decide_eq_true_eq] at h
  exact ⟨h.1.1, h.1.2, h.2⟩
theorem take_any {w0 : World} {K : HL} (hK : FromK K) (b : Nat) (s t : List UInt8) (r : QS) (ht : t.length ≤ 1000000) (hs : s.length ≤ 1000000) (w : World) (hM0 : Mem w0 ([(901, rdI b s r)] ++ K) w) :
    Calls Tryz.prog 84 #[selfQ b, str t] w fun e w' => ∃ z : Unit, e = .returned (.tuple #[]) ∧ True ∧ Mem w0 ([(901, rdI b s (takeQ s t r))] ++ K) w' := by
  refine enterM_args (args := [selfQ b, str t]) (F := _) hM0 Tryz.func84 rfl Tryz.ntmps84 rfl rfl ?_
  intro Rb hRb hRn
  refine tx ?_
  refine sr 1 ?_
  refine s1 (y_len_str rfl rfl Tryz.underlying9) ?_
  refine sr 1 ?_
  refine sgo ?_
  refine T_block ?_
  refine lK2 (kf := [(4, 4), (7, 29)]) (kl := [(4, 4), (7, 29), (901, 901)]) (fun (i : Nat) (r1 : QS) => [(7, true, .int .i64 (i : Int))]) (fun (i : Nat) (r1 : QS) => [(901, rdI b s r1)]) (fun (i : Nat) (r1 : QS) => i ≤ t.length ∧ takeQ s t r = takeQ s (t.drop i) r1) (fun (i : Nat) (r1 : QS) => t.length - i) 0 r ?_ ?_ ?_ ?_
  · exact ⟨by omega, rfl⟩
  · exact ⟨rfl, trivial⟩
  · exact ⟨rfl, trivial⟩
  rintro i r1 ⟨hp1, hp2⟩
  refine tx ?_
  refine sr 1 ?_
  refine sgs ?_
  refine T_cond rfl ?_ ?_ <;> intro h8
  · try simp only [nrm] at h8
    refine kgs ?_
    refine T_block ?_
    refine tx ?_
    refine sr 2 ?_
    refine sgs ?_
    refine tx ?_
    refine sr 3 ?_
    refine s1 (y_index_str rfl rfl rfl Tryz.underlying9 (fun _ => by omega)) ?_
    refine S_callM 14 [(901, 901)] (X := Unit) rfl rfl rfl rfl rfl rfl rfl cf40 rfl (fun _ => .bool (isQ s r1 (t.getD i 0))) (fun _ => True) (fun _ => [(901, rdI b s r1)]) (fun _ => rfl) (fun _ => rfl) (fun K1 hK1 w hM => is_any hK1 b s r1 (t.getD i 0) w hM) ?_
    rintro ⟨⟩ _
    refine sr 1 ?_
    refine sgo ?_
    refine T_cond rfl ?_ ?_ <;> intro h15
    · skip
      have e : isQ s r1 (t.getD i 0) = false := by simpa using h15
      refine tx ?_
      refine sr 2 ?_
      refine s1 (y_nilCheck rfl rfl) ?_
      refine s1 (yF fa46_1) ?_
      refine s1 (yL 901 Tryz.underlying3) ?_
      refine S_callM 21 [(901, 901)] (X := Unit) rfl rfl rfl rfl rfl rfl rfl cf44 rfl (fun _ => .tuple #[]) (fun _ => True) (fun _ => [(901, rdI b s (failQ r1 r1.p))]) (fun _ => rfl) (fun _ => rfl) (fun K1 hK1 w hM => fail_any hK1 b s r1 r1.p w hM) ?_
      rintro ⟨⟩ _
      refine sgo ?_
      refine tr0 hRb fun w hM => ?_
      refine ⟨(), rfl, trivial, ?_⟩
      rw [hp2, drQ (by omega : i < t.length), takeQ, if_neg (by rw [e]; decide)]
      exact hM.keep (ks := [(0, 999)]) (by repeat (first | exact kl_rest (by assumption) rfl | (apply kl_in; focus rfl))) _ ⟨rfl, trivial⟩
    have e : isQ s r1 (t.getD i 0) = true := by simpa using h15
    obtain ⟨e1, e2, _⟩ := isQ_t e
    refine kgr ?_
    refine sr 1 ?_
    refine s1 (y_nilCheck rfl rfl) ?_
    refine s1 (yF fa46_1) ?_
    refine s1 (yL 901 Tryz.underlying3) ?_
    refine s1 (y_bin rfl rfl rfl (fun hg => b_add (by omega))) ?_
    refine s1 (y_nilCheck rfl rfl) ?_
    refine s1 (yF fa46_1) ?_
    refine S_store 901 rfl rfl rfl rfl rfl rfl sz3 rfl rfl ?_
    refine sgr ?_
    refine s1 (y_bin rfl rfl rfl (fun hg => b_add (by omega))) ?_
    refine sr 1 ?_
    refine S_nil (nK2 (kf := [(4, 4), (7, 29)]) (kl := [(4, 4), (7, 29), (901, 901)]) (i + 1) ⟨r1.p + 1, r1.w⟩ ?_ ?_ ?_ ?_)
    · omega
    · exact ⟨by omega, by rw [hp2, drQ (by omega : i < t.length), takeQ, if_pos e]⟩
    · exact ⟨rfl, trivial⟩
    · exact ⟨rfl, trivial⟩
  try simp only [nrm] at h8
  refine T_exit (fun a w hF hM => hRn a w (post0 rfl (fun w hM => ?_) a w hF hM))
  refine ⟨(), rfl, trivial, ?_⟩
  rw [hp2, List.drop_of_length_le (by omega), takeQ]
  exact hM.keep (ks := [(0, 999)]) (by repeat (first | exact kl_rest (by assumption) rfl | (apply kl_in; focus rfl))) _ ⟨rfl, trivial⟩
theorem cut_nat (s : List UInt8) (a n : Nat) : (s.take (a + n)).drop a = (s.drop a).take n := by rw [List.drop_take, Nat.add_sub_cancel_left]
theorem beg_eq (s t : List UInt8) (r : QS) (hr : r.p ≤ s.length) : (decide (wI r.w < 0) && decide (((t.length : Nat) : Int) ≤ ((s.length : Nat) : Int) - (r.p : Int)) && decide (((s.take (r.p + t.length)).drop r.p) = t)) = begQ s r t := by
  unfold begQ
  rw [wI_neg, cut_nat]
  congr 2
  exact decide_eq_decide.2 (by omega)
theorem nmL_le : ∀ (t : List UInt8) (k : Nat), nmLen t k ≤ t.length
  | [], k => Nat.le_refl _
  | c :: t, k => by
    rw [nmLen]
    split
    · have := nmL_le t (k + 1); simp only [List.length_cons]; omega
    · exact Nat.zero_le _
theorem name_le {s : List UInt8} {r : QS} (h : r.p ≤ s.length) : (nameQ s r).p ≤ s.length ∧ r.p ≤ (nameQ s r).p := by
  unfold nameQ
  split
  · exact ⟨h, Nat.le_refl _⟩
  · have := nmL_le (s.drop r.p) 0
    rw [List.length_drop] at this
    dsimp only
    omega
def nmGo (s : List UInt8) (p i : Nat) : Bool := decide (p + i < s.length) && qNam (s.getD (p + i) 0)
def nmStop (s : List UInt8) (p i : Nat) : Bool := decide (i = 0) && !qLet (s.getD (p + i) 0) || decide (i = 40)
def nmBad (s : List UInt8) (p i : Nat) : Bool := decide (i = 0) || decide (i = 40) && nmGo s p i
theorem nm_lt {s : List UInt8} {p i : Nat} (h : nmGo s p i = true) : p + i < s.length := by
  simp only [nmGo, Bool.and_eq_true, decide_eq_true_eq] at h
  exact h.1
theorem nm_stop0 {s : List UInt8} {p i : Nat} (h : nmGo s p i = false) : nmLen (s.drop (p + i)) i = 0 := by
  by_cases hl : p + i < s.length
  · rw [drQ hl, nmLen, if_neg]
    rintro ⟨h1, _⟩
    rw [nmGo, decide_eq_true hl, h1] at h; cases h
  · rw [List.drop_of_length_le (by omega)]; rfl
theorem nm_stop1 {s : List UInt8} {p i : Nat} (h : nmGo s p i = true) (h2 : nmStop s p i = true) : nmLen (s.drop (p + i)) i = 0 := by
  simp only [nmGo, Bool.and_eq_true, decide_eq_true_eq] at h
  rw [drQ h.1, nmLen, if_neg]
  rintro ⟨_, h3, h4⟩
  simp only [nmStop, Bool.or_eq_true, Bool.and_eq_true, decide_eq_true_eq, Bool.not_eq_true'] at h2
  rcases h2 with ⟨h5, h6⟩ | h5
  · rw [h3 h5] at h6; cases h6
  · exact h4 h5
theorem nm_next {s : List UInt8} {p i : Nat} (h : nmGo s p i = true) (h2 : nmStop s p i = false) : nmLen (s.drop (p + i)) i = nmLen (s.drop (p + (i + 1))) (i + 1) + 1 := by
  simp only [nmGo, Bool.and_eq_true, decide_eq_true_eq] at h
  simp only [nmStop, Bool.or_eq_false_iff, Bool.and_eq_false_iff, decide_eq_false_iff_not, Bool.not_eq_false'] at h2
  rw [drQ h.1, nmLen, if_pos ⟨h.2, fun h0 => h2.1.resolve_left fun hh => hh h0, h2.2⟩]
  rfl
theorem nameQ_of {s : List UInt8} {p i : Nat} (h : nmLen (s.drop p) 0 = i) : nameQ s ⟨p, none⟩ = if nmBad s p i = true then failQ ⟨p + i, none⟩ (p + i) else ⟨p + i, none⟩ := by
  unfold nameQ
  rw [if_neg (by simp)]
  dsimp only
  rw [h]
  have e : (i = 0 ∨ i = 40 ∧ p + i < s.length ∧ qNam (s.getD (p + i) 0) = true) ↔ nmBad s p i = true := by
    simp only [nmBad, nmGo, Bool.or_eq_true, Bool.and_eq_true, decide_eq_true_eq]
  by_cases hb : nmBad s p i = true
  · rw [if_pos hb, if_pos (e.2 hb)]; rfl
  · rw [if_neg hb, if_neg fun hh => hb (e.1 hh)]
theorem nmGo_eq (s : List UInt8) (p i : Nat) : (decide ((-1 : Int) < 0) && decide (((p + i : Nat) : Int) < ((s.length : Nat) : Int)) && qNam (s.getD (p + i) 0)) = nmGo s p i := by
  unfold nmGo
  rw [show decide ((-1 : Int) < 0) = true from rfl, Bool.true_and]
  congr 1; exact decide_eq_decide.2 (by omega)
theorem nmStop_eq (s : List UInt8) (p i : Nat) : (decide (((p + i : Nat) : Int) = ((p : Nat) : Int)) && (decide ((((s.getD (p + i) 0).toNat : Nat) : Int) < 97) || decide ((122 : Int) < (((s.getD (p + i) 0).toNat : Nat) : Int))) || decide (((p + i : Nat) : Int) - ((p : Nat) : Int) = 40)) = nmStop s p i := by
  unfold nmStop qLet
  congr 1
  · congr 1
    · exact decide_eq_decide.2 (by omega)
    · rw [Bool.not_and, ← decide_not, ← decide_not]
      congr 1
      · exact decide_eq_decide.2 (by omega)
      · exact decide_eq_decide.2 (by omega)
  · exact decide_eq_decide.2 (by omega)
theorem nmBad_eq (s : List UInt8) (p i : Nat) : (decide ((-1 : Int) < 0) && (decide (((p + i : Nat) : Int) = ((p : Nat) : Int)) || decide (((p + i : Nat) : Int) - ((p : Nat) : Int) = 40) && decide (((p + i : Nat) : Int) < ((s.length : Nat) : Int)) && qNam (s.getD (p + i) 0))) = nmBad s p i := by
  unfold nmBad nmGo
  rw [show decide ((-1 : Int) < 0) = true from rfl, Bool.true_and, Bool.and_assoc]
  congr 1
  · exact decide_eq_decide.2 (by omega)
  · congr 1
    · exact decide_eq_decide.2 (by omega)
    · congr 1; exact decide_eq_decide.2 (by omega)
theorem nm_ne {s : List UInt8} {p i : Nat} (h : nmStop s p i = false) : i ≠ 40 := by
  simp only [nmStop, Bool.or_eq_false_iff, decide_eq_false_iff_not] at h
  exact h.2
theorem name_any {w0 : World} {K : HL} (hK : FromK K) (b : Nat) (s : List UInt8) (r : QS) (hs : s.length ≤ 1000000) (hr : r.p ≤ s.length) (w : World) (hM0 : Mem w0 ([(901, rdI b s r)] ++ K) w) :
    Calls Tryz.prog 80 #[selfQ b] w fun e w' => ∃ z : Unit, e = .returned (str ((s.take (nameQ s r).p).drop r.p)) ∧ True ∧ Mem w0 ([(901, rdI b s (nameQ s r))] ++ K) w' := by
  obtain ⟨p, wr⟩ := r
  have hr : p ≤ s.length := hr
  cases wr with
  | none =>
    have hM0 : Mem w0 ([(901, rdN b s p (-1))] ++ K) w := hM0
    refine enterM_args (args := [selfQ b]) (F := _) hM0 Tryz.func80 rfl Tryz.ntmps80 rfl rfl ?_
    intro Rb hRb hRn
    refine tx ?_
    refine sr 1 ?_
    refine sgx ?_
    refine sr 1 ?_
    refine s1 (y_nilCheck rfl rfl) ?_
    refine s1 (yF fa46_1) ?_
    refine s1 (yL 901 Tryz.underlying3) ?_
    refine sr 1 ?_
    refine sgs ?_
    refine T_block ?_
    refine lK1 (kf := [(8, 82)]) (kl := [(8, 82), (901, 901)]) (fun (i : Nat) => []) (fun (i : Nat) => [(901, rdN b s (p + i) (-1))]) (fun (i : Nat) => p + i ≤ s.length ∧ i ≤ 40 ∧ nmLen (s.drop p) 0 = i + nmLen (s.drop (p + i)) i) (fun (i : Nat) => s.length - (p + i)) 0 ?_ ?_ ?_ ?_
    · exact ⟨by omega, by omega, by simp⟩
    · exact trivial
    · exact ⟨rfl, trivial⟩
    rintro i ⟨hp1, hp2, hp3⟩
    refine T_seq ?_
    refine T_seq ?_
    refine T_draws (by kernel_rfl) (by kernel_rfl) ?_
    refine d1 (y_move rfl rfl) ?_
    refine d1 (y_nilCheck rfl rfl) ?_
    refine d1 (yF fa46_2) ?_
    refine d1 (yL 901 Tryz.underlying3) ?_
    refine d1 (y_bin rfl rfl rfl (fun _ => b_lss)) ?_
    refine d1 (y_move rfl rfl) ?_
    refine dg rfl (y_move rfl rfl) ?_
    refine dg rfl (y_nilCheck rfl rfl) ?_
    refine dg rfl (yF fa46_1) ?_
    refine dg rfl (yL 901 Tryz.underlying3) ?_
    refine dg rfl (y_move rfl rfl) ?_
    refine dg rfl (y_nilCheck rfl rfl) ?_
    refine dg rfl (yF fa46_0) ?_
    refine dg rfl (yL 901 Tryz.underlying9) ?_
    refine dg rfl (y_len_str rfl rfl Tryz.underlying9) ?_
    refine dg rfl (y_bin rfl rfl rfl (fun _ => b_lss)) ?_
    refine d1 (y_and rfl rfl rfl) ?_
    refine d1 (y_move rfl rfl) ?_
    refine dg rfl (y_move rfl rfl) ?_
    refine dg rfl (y_nilCheck rfl rfl) ?_
    refine dg rfl (yF fa46_0) ?_
    refine dg rfl (yL 901 Tryz.underlying9) ?_
    refine dg rfl (y_move rfl rfl) ?_
    refine dg rfl (y_nilCheck rfl rfl) ?_
    refine dg rfl (yF fa46_1) ?_
    refine dg rfl (yL 901 Tryz.underlying3) ?_
    refine dg rfl (y_index_str rfl rfl rfl Tryz.underlying9 (fun hg => by simp only [Bool.true_and, Bool.and_eq_true, beq_iff_eq, decide_eq_true_eq, decide_eq_false_iff_not, Int.not_lt, Int.not_le] at hg; omega)) ?_
    refine dg rfl (y_call rfl rfl rfl cf103 (fun _ w _ => isNameByte_any _ w)) ?_
    refine d1 (y_as (v' := .bool (nmGo s p i)) (by exact congrArg Value.bool (nmGo_eq s p i)) (y_and rfl rfl rfl)) ?_
    refine dgo ?_
    refine T_cond rfl ?_ ?_ <;> intro h36
    · skip
      have hlt : p + i < s.length := nm_lt h36
      refine kgo ?_
      refine T_block ?_
      refine T_seq ?_
      refine T_seq ?_
      refine T_draws (by kernel_rfl) (by kernel_rfl) ?_
      refine d1 (y_move rfl rfl) ?_
      refine d1 (y_nilCheck rfl rfl) ?_
      refine d1 (yF fa46_1) ?_
      refine d1 (yL 901 Tryz.underlying3) ?_
      refine d1 (y_move rfl rfl) ?_
      refine d1 (y_bin rfl rfl rfl (fun _ => b_eql)) ?_
      refine d1 (y_move rfl rfl) ?_
      refine dg rfl (y_move rfl rfl) ?_
      refine dg rfl (y_nilCheck rfl rfl) ?_
      refine dg rfl (yF fa46_0) ?_
      refine dg rfl (yL 901 Tryz.underlying9) ?_
      refine dg rfl (y_move rfl rfl) ?_
      refine dg rfl (y_nilCheck rfl rfl) ?_
      refine dg rfl (yF fa46_1) ?_
      refine dg rfl (yL 901 Tryz.underlying3) ?_
      refine dg rfl (y_index_str rfl rfl rfl Tryz.underlying9 (fun hg => by simp only [Bool.true_and, Bool.and_eq_true, beq_iff_eq, decide_eq_true_eq, decide_eq_false_iff_not, Int.not_lt, Int.not_le] at hg; omega)) ?_
      refine dg rfl (y_bin rfl rfl rfl (fun _ => b_lss)) ?_
      refine dg rfl (y_move rfl rfl) ?_
      refine dg rfl (y_move rfl rfl) ?_
      refine dg rfl (y_nilCheck rfl rfl) ?_
      refine dg rfl (yF fa46_0) ?_
      refine dg rfl (yL 901 Tryz.underlying9) ?_
      refine dg rfl (y_move rfl rfl) ?_
      refine dg rfl (y_nilCheck rfl rfl) ?_
      refine dg rfl (yF fa46_1) ?_
      refine dg rfl (yL 901 Tryz.underlying3) ?_
      refine dg rfl (y_index_str rfl rfl rfl Tryz.underlying9 (fun hg => by simp only [Bool.true_and, Bool.and_eq_true, beq_iff_eq, decide_eq_true_eq, decide_eq_false_iff_not, Int.not_lt, Int.not_le] at hg; omega)) ?_
      refine dg rfl (y_bin rfl rfl rfl (fun _ => b_gtr)) ?_
      refine dg rfl (y_or rfl rfl rfl) ?_
      refine d1 (y_and rfl rfl rfl) ?_
      refine d1 (y_move rfl rfl) ?_
      refine dg rfl (y_move rfl rfl) ?_
      refine dg rfl (y_nilCheck rfl rfl) ?_
      refine dg rfl (yF fa46_1) ?_
      refine dg rfl (yL 901 Tryz.underlying3) ?_
      refine dg rfl (y_move rfl rfl) ?_
      refine dg rfl (y_bin rfl rfl rfl (fun hg => b_sub (by simp only [Bool.true_and, Bool.and_eq_true, beq_iff_eq, decide_eq_true_eq, decide_eq_false_iff_not, Int.not_lt, Int.not_le] at hg; omega))) ?_
      refine dg rfl (y_bin rfl rfl rfl (fun _ => b_eql)) ?_
      refine d1 (y_as (v' := .bool (nmStop s p i)) (by exact congrArg Value.bool (nmStop_eq s p i)) (y_or rfl rfl rfl)) ?_
      refine dgo ?_
      refine T_cond rfl ?_ ?_ <;> intro h75
      · skip
        refine egs ?_
        refine T_seq ?_
        refine T_draws (by kernel_rfl) (by kernel_rfl) ?_
        refine d1 (y_move rfl rfl) ?_
        refine d1 (y_nilCheck rfl rfl) ?_
        refine d1 (yF fa46_2) ?_
        refine d1 (yL 901 Tryz.underlying3) ?_
        refine d1 (y_bin rfl rfl rfl (fun _ => b_lss)) ?_
        refine d1 (y_move rfl rfl) ?_
        refine dg rfl (y_move rfl rfl) ?_
        refine dg rfl (y_nilCheck rfl rfl) ?_
        refine dg rfl (yF fa46_1) ?_
        refine dg rfl (yL 901 Tryz.underlying3) ?_
        refine dg rfl (y_move rfl rfl) ?_
        refine dg rfl (y_bin rfl rfl rfl (fun _ => b_eql)) ?_
        refine dg rfl (y_move rfl rfl) ?_
        refine dg rfl (y_move rfl rfl) ?_
        refine dg rfl (y_nilCheck rfl rfl) ?_
        refine dg rfl (yF fa46_1) ?_
        refine dg rfl (yL 901 Tryz.underlying3) ?_
        refine dg rfl (y_move rfl rfl) ?_
        refine dg rfl (y_bin rfl rfl rfl (fun hg => b_sub (by simp only [Bool.true_and, Bool.and_eq_true, beq_iff_eq, decide_eq_true_eq, decide_eq_false_iff_not, Int.not_lt, Int.not_le] at hg; omega))) ?_
        refine dg rfl (y_bin rfl rfl rfl (fun _ => b_eql)) ?_
        refine dg rfl (y_move rfl rfl) ?_
        refine dg rfl (y_move rfl rfl) ?_
        refine dg rfl (y_nilCheck rfl rfl) ?_
        refine dg rfl (yF fa46_1) ?_
        refine dg rfl (yL 901 Tryz.underlying3) ?_
        refine dg rfl (y_move rfl rfl) ?_
        refine dg rfl (y_nilCheck rfl rfl) ?_
        refine dg rfl (yF fa46_0) ?_
        refine dg rfl (yL 901 Tryz.underlying9) ?_
        refine dg rfl (y_len_str rfl rfl Tryz.underlying9) ?_
        refine dg rfl (y_bin rfl rfl rfl (fun _ => b_lss)) ?_
        refine dg rfl (y_and rfl rfl rfl) ?_
        refine dg rfl (y_move rfl rfl) ?_
        refine dg rfl (y_move rfl rfl) ?_
        refine dg rfl (y_nilCheck rfl rfl) ?_
        refine dg rfl (yF fa46_0) ?_
        refine dg rfl (yL 901 Tryz.underlying9) ?_
        refine dg rfl (y_move rfl rfl) ?_
        refine dg rfl (y_nilCheck rfl rfl) ?_
        refine dg rfl (yF fa46_1) ?_
        refine dg rfl (yL 901 Tryz.underlying3) ?_
        refine dg rfl (y_index_str rfl rfl rfl Tryz.underlying9 (fun hg => by simp only [Bool.true_and, Bool.and_eq_true, beq_iff_eq, decide_eq_true_eq, decide_eq_false_iff_not, Int.not_lt, Int.not_le] at hg; omega)) ?_
        refine dg rfl (y_call rfl rfl rfl cf103 (fun _ w _ => isNameByte_any _ w)) ?_
        refine dg rfl (y_and rfl rfl rfl) ?_
        refine dg rfl (y_or rfl rfl rfl) ?_
        refine d1 (y_as (v' := .bool (nmBad s p i)) (by exact congrArg Value.bool (nmBad_eq s p i)) (y_and rfl rfl rfl)) ?_
        refine dgo ?_
        refine T_cond rfl ?_ ?_ <;> intro h128
        · skip
          refine T_region ?_
          refine sr 2 ?_
          refine s1 (y_nilCheck rfl rfl) ?_
          refine s1 (yF fa46_1) ?_
          refine s1 (yL 901 Tryz.underlying3) ?_
          refine S_callM 134 [(901, 901)] (X := Unit) rfl rfl rfl rfl rfl rfl rfl cf44 rfl (fun _ => .tuple #[]) (fun _ => True) (fun _ => [(901, rdN b s (p + i) ((p + i : Nat) : Int))]) (fun _ => rfl) (fun _ => rfl) (fun K1 hK1 w hM => fail_any hK1 b s ⟨p + i, none⟩ (p + i) w hM) ?_
          rintro ⟨⟩ _
          refine sgs ?_
          refine T_draws (by kernel_rfl) (by kernel_rfl) ?_
          refine d1 (y_move rfl rfl) ?_
          refine d1 (y_nilCheck rfl rfl) ?_
          refine d1 (yF fa46_0) ?_
          refine d1 (yL 901 Tryz.underlying9) ?_
          refine d1 (y_move rfl rfl) ?_
          refine d1 (y_move rfl rfl) ?_
          refine d1 (y_nilCheck rfl rfl) ?_
          refine d1 (yF fa46_1) ?_
          refine d1 (yL 901 Tryz.underlying3) ?_
          refine d1 (y_strSub rfl rfl rfl rfl Tryz.underlying9 (fun _ => by omega)) ?_
          refine d1 (y_assign rfl rfl) ?_
          refine dgo ?_
          refine tr1 hRb fun w hM => ?_
          have e : nmLen (s.drop p) 0 = i := by rw [hp3, nm_stop1 h36 h75]; rfl
          refine ⟨(), ?_, trivial, ?_⟩
          · rw [nameQ_of e, if_pos h128]; rfl
          · rw [nameQ_of e, if_pos h128]; exact hM.keep (ks := [(0, 999)]) (by repeat (first | exact kl_rest (by assumption) rfl | (apply kl_in; focus rfl))) _ ⟨rfl, trivial⟩
        refine kgs ?_
        refine T_draws (by kernel_rfl) (by kernel_rfl) ?_
        refine d1 (y_move rfl rfl) ?_
        refine d1 (y_nilCheck rfl rfl) ?_
        refine d1 (yF fa46_0) ?_
        refine d1 (yL 901 Tryz.underlying9) ?_
        refine d1 (y_move rfl rfl) ?_
        refine d1 (y_move rfl rfl) ?_
        refine d1 (y_nilCheck rfl rfl) ?_
        refine d1 (yF fa46_1) ?_
        refine d1 (yL 901 Tryz.underlying3) ?_
        refine d1 (y_strSub rfl rfl rfl rfl Tryz.underlying9 (fun _ => by omega)) ?_
        refine d1 (y_assign rfl rfl) ?_
        refine dgo ?_
        refine tr1 hRb fun w hM => ?_
        have e : nmLen (s.drop p) 0 = i := by rw [hp3, nm_stop1 h36 h75]; rfl
        refine ⟨(), ?_, trivial, ?_⟩
        · rw [nameQ_of e, if_neg (by rw [h128]; decide)]; rfl
        · rw [nameQ_of e, if_neg (by rw [h128]; decide)]; exact hM.keep (ks := [(0, 999)]) (by repeat (first | exact kl_rest (by assumption) rfl | (apply kl_in; focus rfl))) _ ⟨rfl, trivial⟩
      refine kgr ?_
      refine sr 1 ?_
      refine s1 (y_nilCheck rfl rfl) ?_
      refine s1 (yF fa46_1) ?_
      refine s1 (yL 901 Tryz.underlying3) ?_
      refine s1 (y_bin rfl rfl rfl (fun hg => b_add (by omega))) ?_
      refine s1 (y_nilCheck rfl rfl) ?_
      refine s1 (yF fa46_1) ?_
      refine S_store 901 rfl rfl rfl rfl rfl rfl sz3 rfl rfl ?_
      refine S_nil (nK1 (kf := [(8, 82)]) (kl := [(8, 82), (901, 901)]) (i + 1) ?_ ?_ ?_ ?_)
      · omega
      · exact ⟨by omega, by have := nm_ne h75; omega, by rw [hp3, nm_next h36 h75]; omega⟩
      · exact trivial
      · exact ⟨rfl, trivial⟩
    refine egs ?_
    refine T_seq ?_
    refine T_draws (by kernel_rfl) (by kernel_rfl) ?_
    refine d1 (y_move rfl rfl) ?_
    refine d1 (y_nilCheck rfl rfl) ?_
    refine d1 (yF fa46_2) ?_
    refine d1 (yL 901 Tryz.underlying3) ?_
    refine d1 (y_bin rfl rfl rfl (fun _ => b_lss)) ?_
    refine d1 (y_move rfl rfl) ?_
    refine dg rfl (y_move rfl rfl) ?_
    refine dg rfl (y_nilCheck rfl rfl) ?_
    refine dg rfl (yF fa46_1) ?_
    refine dg rfl (yL 901 Tryz.underlying3) ?_
    refine dg rfl (y_move rfl rfl) ?_
    refine dg rfl (y_bin rfl rfl rfl (fun _ => b_eql)) ?_
    refine dg rfl (y_move rfl rfl) ?_
    refine dg rfl (y_move rfl rfl) ?_
    refine dg rfl (y_nilCheck rfl rfl) ?_
    refine dg rfl (yF fa46_1) ?_
    refine dg rfl (yL 901 Tryz.underlying3) ?_
    refine dg rfl (y_move rfl rfl) ?_
    refine dg rfl (y_bin rfl rfl rfl (fun hg => b_sub (by simp only [Bool.true_and, Bool.and_eq_true, beq_iff_eq, decide_eq_true_eq, decide_eq_false_iff_not, Int.not_lt, Int.not_le] at hg; omega))) ?_
    refine dg rfl (y_bin rfl rfl rfl (fun _ => b_eql)) ?_
    refine dg rfl (y_move rfl rfl) ?_
    refine dg rfl (y_move rfl rfl) ?_
    refine dg rfl (y_nilCheck rfl rfl) ?_
    refine dg rfl (yF fa46_1) ?_
    refine dg rfl (yL 901 Tryz.underlying3) ?_
    refine dg rfl (y_move rfl rfl) ?_
    refine dg rfl (y_nilCheck rfl rfl) ?_
    refine dg rfl (yF fa46_0) ?_
    refine dg rfl (yL 901 Tryz.underlying9) ?_
    refine dg rfl (y_len_str rfl rfl Tryz.underlying9) ?_
    refine dg rfl (y_bin rfl rfl rfl (fun _ => b_lss)) ?_
    refine dg rfl (y_and rfl rfl rfl) ?_
    refine dg rfl (y_move rfl rfl) ?_
    refine dg rfl (y_move rfl rfl) ?_
    refine dg rfl (y_nilCheck rfl rfl) ?_
    refine dg rfl (yF fa46_0) ?_
    refine dg rfl (yL 901 Tryz.underlying9) ?_
    refine dg rfl (y_move rfl rfl) ?_
    refine dg rfl (y_nilCheck rfl rfl) ?_
    refine dg rfl (yF fa46_1) ?_
    refine dg rfl (yL 901 Tryz.underlying3) ?_
    refine dg rfl (y_index_str rfl rfl rfl Tryz.underlying9 (fun hg => by simp only [Bool.true_and, Bool.and_eq_true, beq_iff_eq, decide_eq_true_eq, decide_eq_false_iff_not, Int.not_lt, Int.not_le] at hg; omega)) ?_
    refine dg rfl (y_call rfl rfl rfl cf103 (fun _ w _ => isNameByte_any _ w)) ?_
    refine dg rfl (y_and rfl rfl rfl) ?_
    refine dg rfl (y_or rfl rfl rfl) ?_
    refine d1 (y_as (v' := .bool (nmBad s p i)) (by exact congrArg Value.bool (nmBad_eq s p i)) (y_and rfl rfl rfl)) ?_
    refine dgo ?_
    refine T_cond rfl ?_ ?_ <;> intro h128
    · skip
      refine T_region ?_
      refine sr 2 ?_
      refine s1 (y_nilCheck rfl rfl) ?_
      refine s1 (yF fa46_1) ?_
      refine s1 (yL 901 Tryz.underlying3) ?_
      refine S_callM 134 [(901, 901)] (X := Unit) rfl rfl rfl rfl rfl rfl rfl cf44 rfl (fun _ => .tuple #[]) (fun _ => True) (fun _ => [(901, rdN b s (p + i) ((p + i : Nat) : Int))]) (fun _ => rfl) (fun _ => rfl) (fun K1 hK1 w hM => fail_any hK1 b s ⟨p + i, none⟩ (p + i) w hM) ?_
      rintro ⟨⟩ _
      refine sgs ?_
      refine T_draws (by kernel_rfl) (by kernel_rfl) ?_
      refine d1 (y_move rfl rfl) ?_
      refine d1 (y_nilCheck rfl rfl) ?_
      refine d1 (yF fa46_0) ?_
      refine d1 (yL 901 Tryz.underlying9) ?_
      refine d1 (y_move rfl rfl) ?_
      refine d1 (y_move rfl rfl) ?_
      refine d1 (y_nilCheck rfl rfl) ?_
      refine d1 (yF fa46_1) ?_
      refine d1 (yL 901 Tryz.underlying3) ?_
      refine d1 (y_strSub rfl rfl rfl rfl Tryz.underlying9 (fun _ => by omega)) ?_
      refine d1 (y_assign rfl rfl) ?_
      refine dgo ?_
      refine tr1 hRb fun w hM => ?_
      have e : nmLen (s.drop p) 0 = i := by rw [hp3, nm_stop0 h36]; rfl
      refine ⟨(), ?_, trivial, ?_⟩
      · rw [nameQ_of e, if_pos h128]; rfl
      · rw [nameQ_of e, if_pos h128]; exact hM.keep (ks := [(0, 999)]) (by repeat (first | exact kl_rest (by assumption) rfl | (apply kl_in; focus rfl))) _ ⟨rfl, trivial⟩
    refine kgs ?_
    refine T_draws (by kernel_rfl) (by kernel_rfl) ?_
    refine d1 (y_move rfl rfl) ?_
    refine d1 (y_nilCheck rfl rfl) ?_
    refine d1 (yF fa46_0) ?_
    refine d1 (yL 901 Tryz.underlying9) ?_
    refine d1 (y_move rfl rfl) ?_
    refine d1 (y_move rfl rfl) ?_
    refine d1 (y_nilCheck rfl rfl) ?_
    refine d1 (yF fa46_1) ?_
    refine d1 (yL 901 Tryz.underlying3) ?_
    refine d1 (y_strSub rfl rfl rfl rfl Tryz.underlying9 (fun _ => by omega)) ?_
    refine d1 (y_assign rfl rfl) ?_
    refine dgo ?_
    refine tr1 hRb fun w hM => ?_
    have e : nmLen (s.drop p) 0 = i := by rw [hp3, nm_stop0 h36]; rfl
    refine ⟨(), ?_, trivial, ?_⟩
    · rw [nameQ_of e, if_neg (by rw [h128]; decide)]; rfl
    · rw [nameQ_of e, if_neg (by rw [h128]; decide)]; exact hM.keep (ks := [(0, 999)]) (by repeat (first | exact kl_rest (by assumption) rfl | (apply kl_in; focus rfl))) _ ⟨rfl, trivial⟩
  | some j =>
    have hM0 : Mem w0 ([(901, rdN b s p (j : Int))] ++ K) w := hM0
    have e : nameQ s ⟨p, some j⟩ = ⟨p, some j⟩ := if_pos (by simp)
    have hn : decide ((j : Int) < 0) = false := decide_eq_false (by omega)
    refine enterM_args (args := [selfQ b]) (F := _) hM0 Tryz.func80 rfl Tryz.ntmps80 rfl rfl ?_
    intro Rb hRb hRn
    refine tx ?_
    refine sr 1 ?_
    refine sgx ?_
    refine sr 1 ?_
    refine s1 (y_nilCheck rfl rfl) ?_
    refine s1 (yF fa46_1) ?_
    refine s1 (yL 901 Tryz.underlying3) ?_
    refine sr 1 ?_
    refine sgs ?_
    refine T_block ?_
    refine lK1 (kf := [(8, 82)]) (kl := [(8, 82), (901, 901)]) (fun (u : Unit) => []) (fun (u : Unit) => [(901, rdN b s p (j : Int))]) (fun (u : Unit) => True) (fun (u : Unit) => 0) () ?_ ?_ ?_ ?_
    · exact trivial
    · exact trivial
    · exact ⟨rfl, trivial⟩
    rintro u _
    refine T_seq ?_
    refine T_seq ?_
    refine T_draws (by kernel_rfl) (by kernel_rfl) ?_
    refine d1 (y_move rfl rfl) ?_
    refine d1 (y_nilCheck rfl rfl) ?_
    refine d1 (yF fa46_2) ?_
    refine d1 (yL 901 Tryz.underlying3) ?_
    refine d1 (y_bin rfl rfl rfl (fun _ => b_lss)) ?_
    refine d1 (y_move rfl rfl) ?_
    refine dg rfl (y_move rfl rfl) ?_
    refine dg rfl (y_nilCheck rfl rfl) ?_
    refine dg rfl (yF fa46_1) ?_
    refine dg rfl (yL 901 Tryz.underlying3) ?_
    refine dg rfl (y_move rfl rfl) ?_
    refine dg rfl (y_nilCheck rfl rfl) ?_
    refine dg rfl (yF fa46_0) ?_
    refine dg rfl (yL 901 Tryz.underlying9) ?_
    refine dg rfl (y_len_str rfl rfl Tryz.underlying9) ?_
    refine dg rfl (y_bin rfl rfl rfl (fun _ => b_lss)) ?_
    refine d1 (y_and rfl rfl rfl) ?_
    refine d1 (y_move rfl rfl) ?_
    refine dg rfl (y_move rfl rfl) ?_
    refine dg rfl (y_nilCheck rfl rfl) ?_
    refine dg rfl (yF fa46_0) ?_
    refine dg rfl (yL 901 Tryz.underlying9) ?_
    refine dg rfl (y_move rfl rfl) ?_
    refine dg rfl (y_nilCheck rfl rfl) ?_
    refine dg rfl (yF fa46_1) ?_
    refine dg rfl (yL 901 Tryz.underlying3) ?_
    refine dg rfl (y_index_str rfl rfl rfl Tryz.underlying9 (fun hg => by simp only [Bool.true_and, Bool.and_eq_true, beq_iff_eq, decide_eq_true_eq, decide_eq_false_iff_not, Int.not_lt, Int.not_le] at hg; omega)) ?_
    refine dg rfl (y_call rfl rfl rfl cf103 (fun _ w _ => isNameByte_any _ w)) ?_
    refine d1 (y_and rfl rfl rfl) ?_
    refine dgo ?_
    refine T_cond rfl ?_ ?_ <;> intro h36
    · skip
      rw [hn] at h36; cases h36
    refine egs ?_
    refine T_seq ?_
    refine T_draws (by kernel_rfl) (by kernel_rfl) ?_
    refine d1 (y_move rfl rfl) ?_
    refine d1 (y_nilCheck rfl rfl) ?_
    refine d1 (yF fa46_2) ?_
    refine d1 (yL 901 Tryz.underlying3) ?_
    refine d1 (y_bin rfl rfl rfl (fun _ => b_lss)) ?_
    refine d1 (y_move rfl rfl) ?_
    refine dg rfl (y_move rfl rfl) ?_
    refine dg rfl (y_nilCheck rfl rfl) ?_
    refine dg rfl (yF fa46_1) ?_
    refine dg rfl (yL 901 Tryz.underlying3) ?_
    refine dg rfl (y_move rfl rfl) ?_
    refine dg rfl (y_bin rfl rfl rfl (fun _ => b_eql)) ?_
    refine dg rfl (y_move rfl rfl) ?_
    refine dg rfl (y_move rfl rfl) ?_
    refine dg rfl (y_nilCheck rfl rfl) ?_
    refine dg rfl (yF fa46_1) ?_
    refine dg rfl (yL 901 Tryz.underlying3) ?_
    refine dg rfl (y_move rfl rfl) ?_
    refine dg rfl (y_bin rfl rfl rfl (fun hg => b_sub (by simp only [Bool.true_and, Bool.and_eq_true, beq_iff_eq, decide_eq_true_eq, decide_eq_false_iff_not, Int.not_lt, Int.not_le] at hg; omega))) ?_
    refine dg rfl (y_bin rfl rfl rfl (fun _ => b_eql)) ?_
    refine dg rfl (y_move rfl rfl) ?_
    refine dg rfl (y_move rfl rfl) ?_
    refine dg rfl (y_nilCheck rfl rfl) ?_
    refine dg rfl (yF fa46_1) ?_
    refine dg rfl (yL 901 Tryz.underlying3) ?_
    refine dg rfl (y_move rfl rfl) ?_
    refine dg rfl (y_nilCheck rfl rfl) ?_
    refine dg rfl (yF fa46_0) ?_
    refine dg rfl (yL 901 Tryz.underlying9) ?_
    refine dg rfl (y_len_str rfl rfl Tryz.underlying9) ?_
    refine dg rfl (y_bin rfl rfl rfl (fun _ => b_lss)) ?_
    refine dg rfl (y_and rfl rfl rfl) ?_
    refine dg rfl (y_move rfl rfl) ?_
    refine dg rfl (y_move rfl rfl) ?_
    refine dg rfl (y_nilCheck rfl rfl) ?_
    refine dg rfl (yF fa46_0) ?_
    refine dg rfl (yL 901 Tryz.underlying9) ?_
    refine dg rfl (y_move rfl rfl) ?_
    refine dg rfl (y_nilCheck rfl rfl) ?_
    refine dg rfl (yF fa46_1) ?_
    refine dg rfl (yL 901 Tryz.underlying3) ?_
    refine dg rfl (y_index_str rfl rfl rfl Tryz.underlying9 (fun hg => by simp only [Bool.true_and, Bool.and_eq_true, beq_iff_eq, decide_eq_true_eq, decide_eq_false_iff_not, Int.not_lt, Int.not_le] at hg; omega)) ?_
    refine dg rfl (y_call rfl rfl rfl cf103 (fun _ w _ => isNameByte_any _ w)) ?_
    refine dg rfl (y_and rfl rfl rfl) ?_
    refine dg rfl (y_or rfl rfl rfl) ?_
    refine d1 (y_and rfl rfl rfl) ?_
    refine dgo ?_
    refine T_cond rfl ?_ ?_ <;> intro h128
    · skip
      rw [hn] at h128; cases h128
    refine kgs ?_
    refine T_draws (by kernel_rfl) (by kernel_rfl) ?_
    refine d1 (y_move rfl rfl) ?_
    refine d1 (y_nilCheck rfl rfl) ?_
    refine d1 (yF fa46_0) ?_
    refine d1 (yL 901 Tryz.underlying9) ?_
    refine d1 (y_move rfl rfl) ?_
    refine d1 (y_move rfl rfl) ?_
    refine d1 (y_nilCheck rfl rfl) ?_
    refine d1 (yF fa46_1) ?_
    refine d1 (yL 901 Tryz.underlying3) ?_
    refine d1 (y_strSub rfl rfl rfl rfl Tryz.underlying9 (fun _ => by omega)) ?_
    refine d1 (y_assign rfl rfl) ?_
    refine dgo ?_
    refine tr1 hRb fun w hM => ?_
    rw [e]; exact ⟨(), rfl, trivial, hM.keep (ks := [(0, 999)]) (by repeat (first | exact kl_rest (by assumption) rfl | (apply kl_in; focus rfl))) _ ⟨rfl, trivial⟩⟩
end Go.Proofs.YtfcedlfeinnhoaaGreatDoor
end
section
namespace Go.Proofs.YtfcedlfeinnhoaaGreatDoor
set_option linter.unusedSimpArgs false
set_option linter.unusedVariables false
set_option maxRecDepth 20000
open Go.RowKit Go.Eng
/-- what was read from p on, i bytes of it -/
abbrev cutQ (s : List UInt8) (p i : Nat) : List UInt8 := (s.take (p + i)).drop p
theorem cutQ_len {s : List UInt8} {p i : Nat} (h : p + i ≤ s.length) : (cutQ s p i).length = i := by simp [cutQ]; omega
theorem cutQ_zero (s : List UInt8) (p : Nat) : cutQ s p 0 = [] := by simp [cutQ]
theorem cutQ_succ {s : List UInt8} {p i : Nat} (h : p + i < s.length) : cutQ s p (i + 1) = cutQ s p i ++ [s.getD (p + i) 0] := by
  rw [cutQ, cut_nat, cutQ, cut_nat, List.take_add_one]
  rw [List.getElem?_drop, List.getElem?_eq_getElem h, List.getD_eq_getElem?_getD, List.getElem?_eq_getElem h]
  rfl
/-- where the digits stand after i bytes: on, or at an end -/
def DigAt (s no : List UInt8) (p i : Nat) (wr : Option Nat) : Prop :=
  match wr with
  | none => digQ no [] (s.drop p) p = digQ no (cutQ s p i) (s.drop (p + i)) (p + i)
  | some k => digQ no [] (s.drop p) p = (cutQ s p i, ⟨p + i, some k⟩)
def dgGo (s : List UInt8) (p i : Nat) (wr : Option Nat) : Bool := decide (wr = none) && decide (p + i < s.length) && qDig (s.getD (p + i) 0)
def dgFull (s : List UInt8) (p i : Nat) : Bool := decide (0 < i) && !moreQ (cutQ s p i)
def dgNot (s no : List UInt8) (p i : Nat) : Bool := decide (cutQ s p (i + 1) = no) && !moreQ (cutQ s p (i + 1))
theorem dgGo_eq (s : List UInt8) (p i : Nat) (wr : Option Nat) : (decide (wI wr < 0) && decide (((p + i : Nat) : Int) < ((s.length : Nat) : Int)) && decide ((48 : Int) ≤ (((s.getD (p + i) 0).toNat : Nat) : Int)) && decide ((((s.getD (p + i) 0).toNat : Nat) : Int) ≤ 57)) = dgGo s p i wr := by
  unfold dgGo qDig
  rw [wI_neg, Bool.and_assoc (decide (wr = none) && decide _)]
  congr 2
  exact decide_eq_decide.2 (by omega)
theorem dg_go {s : List UInt8} {p i : Nat} {wr : Option Nat} (h : dgGo s p i wr = true) : wr = none ∧ p + i < s.length ∧ qDig (s.getD (p + i) 0) = true := by
  simp only [dgGo, Bool.and_eq_true, decide_eq_true_eq] at h
  exact ⟨h.1.1, h.1.2, h.2⟩
theorem dg_end {s no : List UInt8} {p i : Nat} {wr : Option Nat} (h : dgGo s p i wr = false) (hd : DigAt s no p i wr) (hl : p + i ≤ s.length) : digQ no [] (s.drop p) p = (cutQ s p i, ⟨p + i, wr⟩) := by
  cases wr with
  | some k => exact hd
  | none =>
    have hd : digQ no [] (s.drop p) p = digQ no (cutQ s p i) (s.drop (p + i)) (p + i) := hd
    rw [hd]
    by_cases h2 : p + i < s.length
    · rw [drQ h2, digQ, if_neg]
      intro h3
      rw [dgGo, h3, decide_eq_true h2] at h; cases h
    · rw [List.drop_of_length_le (by omega)]; rfl
theorem dg_full {s no : List UInt8} {p i : Nat} (h : dgGo s p i none = true) (hf : dgFull s p i = true) (hd : DigAt s no p i none) : digQ no [] (s.drop p) p = (cutQ s p i, ⟨p + i, some (p + i)⟩) := by
  obtain ⟨_, h2, h3⟩ := dg_go h
  have hd : digQ no [] (s.drop p) p = digQ no (cutQ s p i) (s.drop (p + i)) (p + i) := hd
  simp only [dgFull, Bool.and_eq_true, decide_eq_true_eq, Bool.not_eq_true'] at hf
  have hl := cutQ_len (show p + i ≤ s.length by omega)
  rw [hd, drQ h2, digQ, if_pos h3, if_pos ⟨fun e => by rw [e] at hl; simp at hl; omega, hf.2⟩]
theorem dg_step {s no : List UInt8} {p i : Nat} (h : dgGo s p i none = true) (hf : dgFull s p i = false) (hd : DigAt s no p i none) : DigAt s no p (i + 1) (if dgNot s no p i = true then some (p + i) else none) := by
  obtain ⟨_, h2, h3⟩ := dg_go h
  have hd : digQ no [] (s.drop p) p = digQ no (cutQ s p i) (s.drop (p + i)) (p + i) := hd
  have hl := cutQ_len (show p + i ≤ s.length by omega)
  rw [drQ h2, digQ, if_pos h3, if_neg, ← cutQ_succ h2] at hd
  · by_cases hn : dgNot s no p i = true
    · rw [if_pos hn]
      have hn2 := hn
      simp only [dgNot, Bool.and_eq_true, decide_eq_true_eq, Bool.not_eq_true'] at hn2
      rw [if_pos hn2] at hd
      exact hd
    · rw [if_neg hn]
      rw [if_neg (fun hh => hn (by simp only [dgNot, Bool.and_eq_true, decide_eq_true_eq, Bool.not_eq_true']; exact hh))] at hd
      exact hd
  · rintro ⟨h4, h5⟩
    rw [dgFull, h5, decide_eq_true (show 0 < i from Nat.pos_of_ne_zero fun h0 => h4 (by rw [h0, cutQ_zero]))] at hf
    cases hf
theorem num_of {s no : List UInt8} {p i : Nat} {wr : Option Nat} (h : digQ no [] (s.drop p) p = (cutQ s p i, ⟨p + i, wr⟩)) : numQ s no ⟨p, none⟩ = (cutQ s p i, if (decide (cutQ s p i = []) || decide (cutQ s p i = no)) = true then failQ ⟨p + i, wr⟩ (p + i) else ⟨p + i, wr⟩) := by
  unfold numQ
  rw [if_neg (by simp)]
  dsimp only
  rw [h]
  dsimp only
  simp only [Bool.or_eq_true, decide_eq_true_eq]
theorem number_any {w0 : World} {K : HL} (hK : FromK K) (b : Nat) (s no : List UInt8) (r : QS) (hs : s.length ≤ 1000000) (hr : r.p ≤ s.length) (w : World) (hM0 : Mem w0 ([(901, rdI b s r)] ++ K) w) :
    Calls Tryz.prog 105 #[selfQ b, str no] w fun e w' => ∃ z : Unit, e = .returned (str (numQ s no r).1) ∧ True ∧ Mem w0 ([(901, rdI b s (numQ s no r).2)] ++ K) w' := by
  obtain ⟨p, wr⟩ := r
  have hr : p ≤ s.length := hr
  cases wr with
  | none =>
    have hM0 : Mem w0 ([(901, rdN b s p (wI none))] ++ K) w := hM0
    refine enterM_args (args := [selfQ b, str no]) (F := _) hM0 Tryz.func105 rfl Tryz.ntmps105 rfl rfl ?_
    intro Rb hRb hRn
    refine tx ?_
    refine sr 1 ?_
    refine sgx ?_
    refine sr 1 ?_
    refine s1 (y_nilCheck rfl rfl) ?_
    refine s1 (yF fa46_1) ?_
    refine s1 (yL 901 Tryz.underlying3) ?_
    refine sr 1 ?_
    refine sgs ?_
    refine T_block ?_
    refine lK2 (kf := [(6, 6), (12, 110)]) (kl := [(6, 6), (12, 110), (901, 901)]) (fun (i : Nat) (wr : Option Nat) => []) (fun (i : Nat) (wr : Option Nat) => [(901, rdN b s (p + i) (wI wr))]) (fun (i : Nat) (wr : Option Nat) => p + i ≤ s.length ∧ DigAt s no p i wr) (fun (i : Nat) (wr : Option Nat) => s.length - (p + i)) 0 none ?_ ?_ ?_ ?_
    · exact ⟨by omega, by show digQ no [] (s.drop p) p = digQ no (cutQ s p 0) (s.drop (p + 0)) (p + 0); rw [cutQ_zero]; rfl⟩
    · exact trivial
    · exact ⟨rfl, trivial⟩
    rintro i wr ⟨hp1, hp2⟩
    refine T_seq ?_
    refine T_seq ?_
    refine T_draws (by kernel_rfl) (by kernel_rfl) ?_
    refine d1 (y_move rfl rfl) ?_
    refine d1 (y_nilCheck rfl rfl) ?_
    refine d1 (yF fa46_2) ?_
    refine d1 (yL 901 Tryz.underlying3) ?_
    refine d1 (y_bin rfl rfl rfl (fun _ => b_lss)) ?_
    refine d1 (y_move rfl rfl) ?_
    refine dg rfl (y_move rfl rfl) ?_
    refine dg rfl (y_nilCheck rfl rfl) ?_
    refine dg rfl (yF fa46_1) ?_
    refine dg rfl (yL 901 Tryz.underlying3) ?_
    refine dg rfl (y_move rfl rfl) ?_
    refine dg rfl (y_nilCheck rfl rfl) ?_
    refine dg rfl (yF fa46_0) ?_
    refine dg rfl (yL 901 Tryz.underlying9) ?_
    refine dg rfl (y_len_str rfl rfl Tryz.underlying9) ?_
    refine dg rfl (y_bin rfl rfl rfl (fun _ => b_lss)) ?_
    refine d1 (y_and rfl rfl rfl) ?_
    refine d1 (y_move rfl rfl) ?_
    refine dg rfl (y_move rfl rfl) ?_
    refine dg rfl (y_nilCheck rfl rfl) ?_
    refine dg rfl (yF fa46_0) ?_
    refine dg rfl (yL 901 Tryz.underlying9) ?_
    refine dg rfl (y_move rfl rfl) ?_
    refine dg rfl (y_nilCheck rfl rfl) ?_
    refine dg rfl (yF fa46_1) ?_
    refine dg rfl (yL 901 Tryz.underlying3) ?_
    refine dg rfl (y_index_str rfl rfl rfl Tryz.underlying9 (fun hg => by simp only [Bool.true_and, Bool.and_eq_true, beq_iff_eq, decide_eq_true_eq, decide_eq_false_iff_not, Int.not_lt, Int.not_le] at hg; omega)) ?_
    refine dg rfl (y_bin rfl rfl rfl (fun _ => b_geq)) ?_
    refine d1 (y_and rfl rfl rfl) ?_
    refine d1 (y_move rfl rfl) ?_
    refine dg rfl (y_move rfl rfl) ?_
    refine dg rfl (y_nilCheck rfl rfl) ?_
    refine dg rfl (yF fa46_0) ?_
    refine dg rfl (yL 901 Tryz.underlying9) ?_
    refine dg rfl (y_move rfl rfl) ?_
    refine dg rfl (y_nilCheck rfl rfl) ?_
    refine dg rfl (yF fa46_1) ?_
    refine dg rfl (yL 901 Tryz.underlying3) ?_
    refine dg rfl (y_index_str rfl rfl rfl Tryz.underlying9 (fun hg => by simp only [Bool.true_and, Bool.and_eq_true, beq_iff_eq, decide_eq_true_eq, decide_eq_false_iff_not, Int.not_lt, Int.not_le] at hg; omega)) ?_
    refine dg rfl (y_bin rfl rfl rfl (fun _ => b_leq)) ?_
    refine d1 (y_as (v' := .bool (dgGo s p i wr)) (by exact congrArg Value.bool (dgGo_eq s p i wr)) (y_and rfl rfl rfl)) ?_
    refine dgo ?_
    refine T_cond rfl ?_ ?_ <;> intro h52
    · skip
      obtain ⟨hw, hlt, hdg⟩ := dg_go h52
      subst hw
      refine kgo ?_
      refine T_block ?_
      refine T_seq ?_
      refine T_seq ?_
      refine T_draws (by kernel_rfl) (by kernel_rfl) ?_
      refine d1 (y_move rfl rfl) ?_
      refine d1 (y_nilCheck rfl rfl) ?_
      refine d1 (yF fa46_1) ?_
      refine d1 (yL 901 Tryz.underlying3) ?_
      refine d1 (y_move rfl rfl) ?_
      refine d1 (y_bin rfl rfl rfl (fun _ => b_gtr)) ?_
      refine d1 (y_move rfl rfl) ?_
      refine dg rfl (y_move rfl rfl) ?_
      refine dg rfl (y_nilCheck rfl rfl) ?_
      refine dg rfl (yF fa46_0) ?_
      refine dg rfl (yL 901 Tryz.underlying9) ?_
      refine dg rfl (y_move rfl rfl) ?_
      refine dg rfl (y_move rfl rfl) ?_
      refine dg rfl (y_nilCheck rfl rfl) ?_
      refine dg rfl (yF fa46_1) ?_
      refine dg rfl (yL 901 Tryz.underlying3) ?_
      refine dg rfl (y_strSub rfl rfl rfl rfl Tryz.underlying9 (fun hg => by simp only [Bool.true_and, Bool.and_eq_true, beq_iff_eq, decide_eq_true_eq, decide_eq_false_iff_not, Int.not_lt, Int.not_le] at hg; omega)) ?_
      refine dg rfl (y_call rfl rfl rfl cf121 (fun _ w _ => more_any _ w)) ?_
      refine dg rfl (y_not rfl rfl) ?_
      refine d1 (y_as (v' := .bool (dgFull s p i)) (by exact congrArg Value.bool (by unfold dgFull; congr 1; exact decide_eq_decide.2 (by omega))) (y_and rfl rfl rfl)) ?_
      refine dgo ?_
      refine T_cond rfl ?_ ?_ <;> intro h72
      · skip
        refine tx ?_
        refine sr 2 ?_
        refine s1 (y_nilCheck rfl rfl) ?_
        refine s1 (yF fa46_1) ?_
        refine s1 (yL 901 Tryz.underlying3) ?_
        refine S_callM 78 [(901, 901)] (X := Unit) rfl rfl rfl rfl rfl rfl rfl cf44 rfl (fun _ => .tuple #[]) (fun _ => True) (fun _ => [(901, rdN b s (p + i) (((p + i : Nat) : Int)))]) (fun _ => rfl) (fun _ => rfl) (fun K1 hK1 w hM => fail_any hK1 b s ⟨p + i, none⟩ (p + i) w hM) ?_
        rintro ⟨⟩ _
        refine sgo ?_
        refine egs ?_
        refine T_seq ?_
        refine T_draws (by kernel_rfl) (by kernel_rfl) ?_
        refine d1 (y_move rfl rfl) ?_
        refine d1 (y_nilCheck rfl rfl) ?_
        refine d1 (yF fa46_0) ?_
        refine d1 (yL 901 Tryz.underlying9) ?_
        refine d1 (y_move rfl rfl) ?_
        refine d1 (y_move rfl rfl) ?_
        refine d1 (y_nilCheck rfl rfl) ?_
        refine d1 (yF fa46_1) ?_
        refine d1 (yL 901 Tryz.underlying3) ?_
        refine d1 (y_as (v' := str (cutQ s p i)) (by exact rfl) (y_strSub rfl rfl rfl rfl Tryz.underlying9 (fun _ => by omega))) ?_
        refine d1 (y_assign rfl rfl) ?_
        refine dgx ?_
        refine sr 1 ?_
        refine s1 (y_bin rfl rfl rfl (fun _ => b_eqls)) ?_
        refine sr 1 ?_
        refine sg rfl (y_move rfl rfl) ?_
        refine sg rfl (y_move rfl rfl) ?_
        refine sg rfl (y_bin rfl rfl rfl (fun _ => b_eqls)) ?_
        refine s1 (y_or rfl rfl rfl) ?_
        refine sgo ?_
        refine T_cond rfl ?_ ?_ <;> intro h127
        · skip
          refine T_region ?_
          refine sr 2 ?_
          refine s1 (y_nilCheck rfl rfl) ?_
          refine s1 (yF fa46_1) ?_
          refine s1 (yL 901 Tryz.underlying3) ?_
          refine S_callM 133 [(901, 901)] (X := Unit) rfl rfl rfl rfl rfl rfl rfl cf44 rfl (fun _ => .tuple #[]) (fun _ => True) (fun _ => [(901, rdN b s (p + i) (((p + i : Nat) : Int)))]) (fun _ => rfl) (fun _ => rfl) (fun K1 hK1 w hM => fail_any hK1 b s ⟨p + i, some (p + i)⟩ (p + i) w hM) ?_
          rintro ⟨⟩ _
          refine sgs ?_
          refine T_draws (by kernel_rfl) (by kernel_rfl) ?_
          refine d1 (y_move rfl rfl) ?_
          refine d1 (y_nilCheck rfl rfl) ?_
          refine d1 (yF fa46_0) ?_
          refine d1 (yL 901 Tryz.underlying9) ?_
          refine d1 (y_move rfl rfl) ?_
          refine d1 (y_move rfl rfl) ?_
          refine d1 (y_nilCheck rfl rfl) ?_
          refine d1 (yF fa46_1) ?_
          refine d1 (yL 901 Tryz.underlying3) ?_
          refine d1 (y_as (v' := str (cutQ s p i)) (by exact rfl) (y_strSub rfl rfl rfl rfl Tryz.underlying9 (fun _ => by omega))) ?_
          refine d1 (y_assign rfl rfl) ?_
          refine dgo ?_
          refine tr1 hRb fun w hM => ?_
          have e := dg_full h52 h72 hp2
          refine ⟨(), ?_, trivial, ?_⟩
          · rw [num_of e]
          · rw [num_of e, if_pos h127]; exact hM.keep (ks := [(0, 999)]) (by repeat (first | exact kl_rest (by assumption) rfl | (apply kl_in; focus rfl))) _ ⟨rfl, trivial⟩
        refine kgs ?_
        refine T_draws (by kernel_rfl) (by kernel_rfl) ?_
        refine d1 (y_move rfl rfl) ?_
        refine d1 (y_nilCheck rfl rfl) ?_
        refine d1 (yF fa46_0) ?_
        refine d1 (yL 901 Tryz.underlying9) ?_
        refine d1 (y_move rfl rfl) ?_
        refine d1 (y_move rfl rfl) ?_
        refine d1 (y_nilCheck rfl rfl) ?_
        refine d1 (yF fa46_1) ?_
        refine d1 (yL 901 Tryz.underlying3) ?_
        refine d1 (y_as (v' := str (cutQ s p i)) (by exact rfl) (y_strSub rfl rfl rfl rfl Tryz.underlying9 (fun _ => by omega))) ?_
        refine d1 (y_assign rfl rfl) ?_
        refine dgo ?_
        refine tr1 hRb fun w hM => ?_
        have e := dg_full h52 h72 hp2
        refine ⟨(), ?_, trivial, ?_⟩
        · rw [num_of e]
        · rw [num_of e, if_neg (by rw [h127]; decide)]; exact hM.keep (ks := [(0, 999)]) (by repeat (first | exact kl_rest (by assumption) rfl | (apply kl_in; focus rfl))) _ ⟨rfl, trivial⟩
      refine kgx ?_
      refine sr 1 ?_
      refine s1 (y_nilCheck rfl rfl) ?_
      refine s1 (yF fa46_1) ?_
      refine s1 (yL 901 Tryz.underlying3) ?_
      refine s1 (y_bin rfl rfl rfl (fun hg => b_addv (((p + (i + 1) : Nat) : Int)) (by omega) (by omega))) ?_
      refine s1 (y_nilCheck rfl rfl) ?_
      refine s1 (yF fa46_1) ?_
      refine S_store 901 rfl rfl rfl rfl rfl rfl sz3 rfl rfl ?_
      refine sgs ?_
      refine T_draws (by kernel_rfl) (by kernel_rfl) ?_
      refine d1 (y_move rfl rfl) ?_
      refine d1 (y_nilCheck rfl rfl) ?_
      refine d1 (yF fa46_0) ?_
      refine d1 (yL 901 Tryz.underlying9) ?_
      refine d1 (y_move rfl rfl) ?_
      refine d1 (y_move rfl rfl) ?_
      refine d1 (y_nilCheck rfl rfl) ?_
      refine d1 (yF fa46_1) ?_
      refine d1 (yL 901 Tryz.underlying3) ?_
      refine d1 (y_as (v' := str (cutQ s p (i + 1))) (by exact rfl) (y_strSub rfl rfl rfl rfl Tryz.underlying9 (fun _ => by omega))) ?_
      refine d1 (y_assign rfl rfl) ?_
      refine dgx ?_
      refine sr 2 ?_
      refine s1 (y_bin rfl rfl rfl (fun _ => b_eqls)) ?_
      refine sr 1 ?_
      refine sg rfl (y_move rfl rfl) ?_
      refine sg rfl (y_call rfl rfl rfl cf121 (fun _ w _ => more_any _ w)) ?_
      refine sg rfl (y_not rfl rfl) ?_
      refine s1 (y_as (v' := .bool (dgNot s no p i)) (by exact rfl) (y_and rfl rfl rfl)) ?_
      refine sgo ?_
      refine T_cond rfl ?_ ?_ <;> intro h103
      · skip
        refine T_region ?_
        refine sr 2 ?_
        refine s1 (y_nilCheck rfl rfl) ?_
        refine s1 (yF fa46_1) ?_
        refine s1 (yL 901 Tryz.underlying3) ?_
        refine s1 (y_bin rfl rfl rfl (fun hg => b_subv (((p + i : Nat) : Int)) (by omega) (by omega))) ?_
        refine S_callM 110 [(901, 901)] (X := Unit) rfl rfl rfl rfl rfl rfl rfl cf44 rfl (fun _ => .tuple #[]) (fun _ => True) (fun _ => [(901, rdN b s (p + (i + 1)) (((p + i : Nat) : Int)))]) (fun _ => rfl) (fun _ => rfl) (fun K1 hK1 w hM => fail_any hK1 b s ⟨p + (i + 1), none⟩ (p + i) w hM) ?_
        rintro ⟨⟩ _
        refine S_nil (nK2 (kf := [(6, 6), (12, 110)]) (kl := [(6, 6), (12, 110), (901, 901)]) (i + 1) (some (p + i)) ?_ ?_ ?_ ?_)
        · omega
        · exact ⟨by omega, by have := dg_step h52 h72 hp2; rwa [if_pos h103] at this⟩
        · exact trivial
        · exact ⟨rfl, trivial⟩
      refine T_skip (nK2 (kf := [(6, 6), (12, 110)]) (kl := [(6, 6), (12, 110), (901, 901)]) (i + 1) none ?_ ?_ ?_ ?_)
      · omega
      · exact ⟨by omega, by have := dg_step h52 h72 hp2; rwa [if_neg (by rw [h103]; decide)] at this⟩
      · exact trivial
      · exact ⟨rfl, trivial⟩
    refine egs ?_
    refine T_seq ?_
    refine T_draws (by kernel_rfl) (by kernel_rfl) ?_
    refine d1 (y_move rfl rfl) ?_
    refine d1 (y_nilCheck rfl rfl) ?_
    refine d1 (yF fa46_0) ?_
    refine d1 (yL 901 Tryz.underlying9) ?_
    refine d1 (y_move rfl rfl) ?_
    refine d1 (y_move rfl rfl) ?_
    refine d1 (y_nilCheck rfl rfl) ?_
    refine d1 (yF fa46_1) ?_
    refine d1 (yL 901 Tryz.underlying3) ?_
    refine d1 (y_as (v' := str (cutQ s p i)) (by exact rfl) (y_strSub rfl rfl rfl rfl Tryz.underlying9 (fun _ => by omega))) ?_
    refine d1 (y_assign rfl rfl) ?_
    refine dgx ?_
    refine sr 1 ?_
    refine s1 (y_bin rfl rfl rfl (fun _ => b_eqls)) ?_
    refine sr 1 ?_
    refine sg rfl (y_move rfl rfl) ?_
    refine sg rfl (y_move rfl rfl) ?_
    refine sg rfl (y_bin rfl rfl rfl (fun _ => b_eqls)) ?_
    refine s1 (y_or rfl rfl rfl) ?_
    refine sgo ?_
    refine T_cond rfl ?_ ?_ <;> intro h127
    · skip
      refine T_region ?_
      refine sr 2 ?_
      refine s1 (y_nilCheck rfl rfl) ?_
      refine s1 (yF fa46_1) ?_
      refine s1 (yL 901 Tryz.underlying3) ?_
      refine S_callM 133 [(901, 901)] (X := Unit) rfl rfl rfl rfl rfl rfl rfl cf44 rfl (fun _ => .tuple #[]) (fun _ => True) (fun _ => [(901, rdN b s (p + i) (wI (some (wr.getD (p + i)))))]) (fun _ => rfl) (fun _ => rfl) (fun K1 hK1 w hM => fail_any hK1 b s ⟨p + i, wr⟩ (p + i) w hM) ?_
      rintro ⟨⟩ _
      refine sgs ?_
      refine T_draws (by kernel_rfl) (by kernel_rfl) ?_
      refine d1 (y_move rfl rfl) ?_
      refine d1 (y_nilCheck rfl rfl) ?_
      refine d1 (yF fa46_0) ?_
      refine d1 (yL 901 Tryz.underlying9) ?_
      refine d1 (y_move rfl rfl) ?_
      refine d1 (y_move rfl rfl) ?_
      refine d1 (y_nilCheck rfl rfl) ?_
      refine d1 (yF fa46_1) ?_
      refine d1 (yL 901 Tryz.underlying3) ?_
      refine d1 (y_as (v' := str (cutQ s p i)) (by exact rfl) (y_strSub rfl rfl rfl rfl Tryz.underlying9 (fun _ => by omega))) ?_
      refine d1 (y_assign rfl rfl) ?_
      refine dgo ?_
      refine tr1 hRb fun w hM => ?_
      have e := dg_end h52 hp2 hp1
      refine ⟨(), ?_, trivial, ?_⟩
      · rw [num_of e]
      · rw [num_of e, if_pos h127]; exact hM.keep (ks := [(0, 999)]) (by repeat (first | exact kl_rest (by assumption) rfl | (apply kl_in; focus rfl))) _ ⟨rfl, trivial⟩
    refine kgs ?_
    refine T_draws (by kernel_rfl) (by kernel_rfl) ?_
    refine d1 (y_move rfl rfl) ?_
    refine d1 (y_nilCheck rfl rfl) ?_
    refine d1 (yF fa46_0) ?_
    refine d1 (yL 901 Tryz.underlying9) ?_
    refine d1 (y_move rfl rfl) ?_
    refine d1 (y_move rfl rfl) ?_
    refine d1 (y_nilCheck rfl rfl) ?_
    refine d1 (yF fa46_1) ?_
    refine d1 (yL 901 Tryz.underlying3) ?_
    refine d1 (y_as (v' := str (cutQ s p i)) (by exact rfl) (y_strSub rfl rfl rfl rfl Tryz.underlying9 (fun _ => by omega))) ?_
    refine d1 (y_assign rfl rfl) ?_
    refine dgo ?_
    refine tr1 hRb fun w hM => ?_
    have e := dg_end h52 hp2 hp1
    refine ⟨(), ?_, trivial, ?_⟩
    · rw [num_of e]
    · rw [num_of e, if_neg (by rw [h127]; decide)]; exact hM.keep (ks := [(0, 999)]) (by repeat (first | exact kl_rest (by assumption) rfl | (apply kl_in; focus rfl))) _ ⟨rfl, trivial⟩
  | some j =>
    have hM0 : Mem w0 ([(901, rdN b s p (j : Int))] ++ K) w := hM0
    have e : numQ s no ⟨p, some j⟩ = ([], ⟨p, some j⟩) := if_pos (by simp)
    have hn : decide ((j : Int) < 0) = false := decide_eq_false (by omega)
    have hz : (s.take p).drop p = [] := by simp
    refine enterM_args (args := [selfQ b, str no]) (F := _) hM0 Tryz.func105 rfl Tryz.ntmps105 rfl rfl ?_
    intro Rb hRb hRn
    refine tx ?_
    refine sr 1 ?_
    refine sgx ?_
    refine sr 1 ?_
    refine s1 (y_nilCheck rfl rfl) ?_
    refine s1 (yF fa46_1) ?_
    refine s1 (yL 901 Tryz.underlying3) ?_
    refine sr 1 ?_
    refine sgs ?_
    refine T_block ?_
    refine lK1 (kf := [(6, 6), (12, 110)]) (kl := [(6, 6), (12, 110), (901, 901)]) (fun (u : Unit) => []) (fun (u : Unit) => [(901, rdN b s p (j : Int))]) (fun (u : Unit) => True) (fun (u : Unit) => 0) () ?_ ?_ ?_ ?_
    · exact trivial
    · exact trivial
    · exact ⟨rfl, trivial⟩
    rintro u _
    refine T_seq ?_
    refine T_seq ?_
    refine T_draws (by kernel_rfl) (by kernel_rfl) ?_
    refine d1 (y_move rfl rfl) ?_
    refine d1 (y_nilCheck rfl rfl) ?_
    refine d1 (yF fa46_2) ?_
    refine d1 (yL 901 Tryz.underlying3) ?_
    refine d1 (y_bin rfl rfl rfl (fun _ => b_lss)) ?_
    refine d1 (y_move rfl rfl) ?_
    refine dg rfl (y_move rfl rfl) ?_
    refine dg rfl (y_nilCheck rfl rfl) ?_
    refine dg rfl (yF fa46_1) ?_
    refine dg rfl (yL 901 Tryz.underlying3) ?_
    refine dg rfl (y_move rfl rfl) ?_
    refine dg rfl (y_nilCheck rfl rfl) ?_
    refine dg rfl (yF fa46_0) ?_
    refine dg rfl (yL 901 Tryz.underlying9) ?_
    refine dg rfl (y_len_str rfl rfl Tryz.underlying9) ?_
    refine dg rfl (y_bin rfl rfl rfl (fun _ => b_lss)) ?_
    refine d1 (y_and rfl rfl rfl) ?_
    refine d1 (y_move rfl rfl) ?_
    refine dg rfl (y_move rfl rfl) ?_
    refine dg rfl (y_nilCheck rfl rfl) ?_
    refine dg rfl (yF fa46_0) ?_
    refine dg rfl (yL 901 Tryz.underlying9) ?_
    refine dg rfl (y_move rfl rfl) ?_
    refine dg rfl (y_nilCheck rfl rfl) ?_
    refine dg rfl (yF fa46_1) ?_
    refine dg rfl (yL 901 Tryz.underlying3) ?_
    refine dg rfl (y_index_str rfl rfl rfl Tryz.underlying9 (fun hg => by simp only [Bool.true_and, Bool.and_eq_true, beq_iff_eq, decide_eq_true_eq, decide_eq_false_iff_not, Int.not_lt, Int.not_le] at hg; omega)) ?_
    refine dg rfl (y_bin rfl rfl rfl (fun _ => b_geq)) ?_
    refine d1 (y_and rfl rfl rfl) ?_
    refine d1 (y_move rfl rfl) ?_
    refine dg rfl (y_move rfl rfl) ?_
    refine dg rfl (y_nilCheck rfl rfl) ?_
    refine dg rfl (yF fa46_0) ?_
    refine dg rfl (yL 901 Tryz.underlying9) ?_
    refine dg rfl (y_move rfl rfl) ?_
    refine dg rfl (y_nilCheck rfl rfl) ?_
    refine dg rfl (yF fa46_1) ?_
    refine dg rfl (yL 901 Tryz.underlying3) ?_
    refine dg rfl (y_index_str rfl rfl rfl Tryz.underlying9 (fun hg => by simp only [Bool.true_and, Bool.and_eq_true, beq_iff_eq, decide_eq_true_eq, decide_eq_false_iff_not, Int.not_lt, Int.not_le] at hg; omega)) ?_
    refine dg rfl (y_bin rfl rfl rfl (fun _ => b_leq)) ?_
    refine d1 (y_and rfl rfl rfl) ?_
    refine dgo ?_
    refine T_cond rfl ?_ ?_ <;> intro h52
    · skip
      rw [hn] at h52; cases h52
    refine egs ?_
    refine T_seq ?_
    refine T_draws (by kernel_rfl) (by kernel_rfl) ?_
    refine d1 (y_move rfl rfl) ?_
    refine d1 (y_nilCheck rfl rfl) ?_
    refine d1 (yF fa46_0) ?_
    refine d1 (yL 901 Tryz.underlying9) ?_
    refine d1 (y_move rfl rfl) ?_
    refine d1 (y_move rfl rfl) ?_
    refine d1 (y_nilCheck rfl rfl) ?_
    refine d1 (yF fa46_1) ?_
    refine d1 (yL 901 Tryz.underlying3) ?_
    refine d1 (y_as (v' := str []) (by exact congrArg str hz) (y_strSub rfl rfl rfl rfl Tryz.underlying9 (fun _ => by omega))) ?_
    refine d1 (y_assign rfl rfl) ?_
    refine dgx ?_
    refine sr 1 ?_
    refine s1 (y_bin rfl rfl rfl (fun _ => b_eqls)) ?_
    refine sr 1 ?_
    refine sg rfl (y_move rfl rfl) ?_
    refine sg rfl (y_move rfl rfl) ?_
    refine sg rfl (y_bin rfl rfl rfl (fun _ => b_eqls)) ?_
    refine s1 (y_or rfl rfl rfl) ?_
    refine sgo ?_
    refine T_cond rfl ?_ ?_ <;> intro h127
    · skip
      refine T_region ?_
      refine sr 2 ?_
      refine s1 (y_nilCheck rfl rfl) ?_
      refine s1 (yF fa46_1) ?_
      refine s1 (yL 901 Tryz.underlying3) ?_
      refine S_callM 133 [(901, 901)] (X := Unit) rfl rfl rfl rfl rfl rfl rfl cf44 rfl (fun _ => .tuple #[]) (fun _ => True) (fun _ => [(901, rdN b s (p) ((j : Int)))]) (fun _ => rfl) (fun _ => rfl) (fun K1 hK1 w hM => fail_any hK1 b s ⟨p, some j⟩ p w hM) ?_
      rintro ⟨⟩ _
      refine sgs ?_
      refine T_draws (by kernel_rfl) (by kernel_rfl) ?_
      refine d1 (y_move rfl rfl) ?_
      refine d1 (y_nilCheck rfl rfl) ?_
      refine d1 (yF fa46_0) ?_
      refine d1 (yL 901 Tryz.underlying9) ?_
      refine d1 (y_move rfl rfl) ?_
      refine d1 (y_move rfl rfl) ?_
      refine d1 (y_nilCheck rfl rfl) ?_
      refine d1 (yF fa46_1) ?_
      refine d1 (yL 901 Tryz.underlying3) ?_
      refine d1 (y_as (v' := str []) (by exact congrArg str hz) (y_strSub rfl rfl rfl rfl Tryz.underlying9 (fun _ => by omega))) ?_
      refine d1 (y_assign rfl rfl) ?_
      refine dgo ?_
      refine tr1 hRb fun w hM => ?_
      rw [e]; exact ⟨(), rfl, trivial, hM.keep (ks := [(0, 999)]) (by repeat (first | exact kl_rest (by assumption) rfl | (apply kl_in; focus rfl))) _ ⟨rfl, trivial⟩⟩
    simp at h127
end Go.Proofs.YtfcedlfeinnhoaaGreatDoor
end
section
namespace Go.Proofs.YtfcedlfeinnhoaaGreatDoor
set_option linter.unusedSimpArgs false
set_option linter.unusedVariables false
set_option maxRecDepth 20000
open Go.RowKit Go.Eng
/-- where a quoted value stands: on, or at an end -/
def QuoAt (s : List UInt8) (p k : Nat) (bs : List UInt8) (wr : Option Nat) : Prop :=
  wr = none ∧ quoQ [] (s.drop p) p = quoQ bs (s.drop k) k
theorem quo_end {s bs : List UInt8} {p k : Nat} (h : QuoAt s p k bs none) (hk : s.length ≤ k) : quoQ [] (s.drop p) p = (bs, ⟨k, some k⟩) := by
  rw [h.2, List.drop_of_length_le hk]; rfl
theorem quo_q {s bs : List UInt8} {p k : Nat} (h : QuoAt s p k bs none) (hk : k < s.length) (hc : s.getD k 0 = 34) : quoQ [] (s.drop p) p = (bs, ⟨k + 1, if bareQ bs = true ∨ bs = [] then some k else none⟩) := by
  rw [h.2, drQ hk, hc, quo_34]
theorem quo_step {s bs : List UInt8} {p k : Nat} (h : QuoAt s p k bs none) (hk : k < s.length) (h1 : s.getD k 0 ≠ 34) (h2 : s.getD k 0 ≠ 92) : QuoAt s p (k + 1) (bs ++ [s.getD k 0]) none :=
  ⟨rfl, by rw [h.2, drQ hk, quo_c h1 h2]⟩
theorem quo_esc2 {s bs : List UInt8} {p k : Nat} (h : QuoAt s p k bs none) (hk : k + 1 < s.length) (h1 : s.getD k 0 = 92) (h2 : s.getD (k + 1) 0 = 34 ∨ s.getD (k + 1) 0 = 92) : QuoAt s p (k + 2) (bs ++ [s.getD (k + 1) 0]) none :=
  ⟨rfl, by rw [h.2, drQ (by omega : k < s.length), drQ hk, h1, quo_92 h2]⟩
theorem quo_bad {s bs : List UInt8} {p k : Nat} (h : QuoAt s p k bs none) (hk : k < s.length) (h1 : s.getD k 0 = 92) (h2 : ∀ e, e = 34 ∨ e = 92 → isQ s ⟨k + 1, none⟩ e = false) : quoQ [] (s.drop p) p = (bs, ⟨k + 1, some (k + 1)⟩) := by
  rw [h.2, drQ hk, h1]
  by_cases hl : k + 1 < s.length
  · have h3 : ¬ (s.getD (k + 1) 0 = 34 ∨ s.getD (k + 1) 0 = 92) := fun hh => by
      have := h2 _ hh
      simp [isQ, hl] at this
    rw [drQ hl, quoQ.eq_def]
    dsimp only
    rw [if_neg (by decide), if_pos rfl, if_neg h3]
  · rw [List.drop_of_length_le (by omega), quoQ.eq_def]
    rfl
/-! value -/
def vaGo (s : List UInt8) (p i : Nat) : Bool := decide (p + i < s.length) && qBar (s.getD (p + i) 0) && (decide (0 < i) || !decide (s.getD (p + i) 0 = 45))
theorem va_lt {s : List UInt8} {p i : Nat} (h : vaGo s p i = true) : p + i < s.length := by
  simp only [vaGo, Bool.and_eq_true, decide_eq_true_eq] at h
  exact h.1.1
theorem va_next {s : List UInt8} {p i : Nat} (h : vaGo s p i = true) : barLen (s.drop (p + i)) i = barLen (s.drop (p + (i + 1))) (i + 1) + 1 := by
  simp only [vaGo, Bool.and_eq_true, Bool.or_eq_true, decide_eq_true_eq, Bool.not_eq_true', decide_eq_false_iff_not] at h
  rw [drQ h.1.1, barLen, if_pos ⟨h.1.2, fun h0 => h.2.resolve_left (by omega)⟩]
  rfl
theorem va_stop {s : List UInt8} {p i : Nat} (h : vaGo s p i = false) : barLen (s.drop (p + i)) i = 0 := by
  by_cases hl : p + i < s.length
  · rw [drQ hl, barLen, if_neg]
    rintro ⟨h1, h2⟩
    rw [vaGo, decide_eq_true hl, h1, Bool.true_and, Bool.true_and] at h
    simp only [Bool.or_eq_false_iff, decide_eq_false_iff_not, Bool.not_eq_false', decide_eq_true_eq] at h
    exact h2 (by omega) h.2
  · rw [List.drop_of_length_le (by omega)]; rfl
theorem vaGo_eq (s : List UInt8) (p i : Nat) : (decide ((-1 : Int) < 0) && decide (((p + i : Nat) : Int) < ((s.length : Nat) : Int)) && qBar (s.getD (p + i) 0) && (decide (((p : Nat) : Int) < ((p + i : Nat) : Int)) || !decide ((((s.getD (p + i) 0).toNat : Nat) : Int) = 45))) = vaGo s p i := by
  have e1 : decide (((p + i : Nat) : Int) < ((s.length : Nat) : Int)) = decide (p + i < s.length) := decide_eq_decide.2 (by omega)
  have e2 : decide (((p : Nat) : Int) < ((p + i : Nat) : Int)) = decide (0 < i) := decide_eq_decide.2 (by omega)
  have e3 : decide ((((s.getD (p + i) 0).toNat : Nat) : Int) = 45) = decide (s.getD (p + i) 0 = 45) := decide_eq_decide.2 ⟨fun h => UInt8.toNat_inj.1 (by show (s.getD (p + i) 0).toNat = 45; omega), fun h => by rw [h]; rfl⟩
  unfold vaGo
  rw [e1, e2, e3, show decide ((-1 : Int) < 0) = true from rfl, Bool.true_and]
theorem valQ_of {s : List UInt8} {p i : Nat} (hq : isQ s ⟨p, none⟩ 34 = false) (h : barLen (s.drop p) 0 = i) (hi : p + i ≤ s.length) : valQ s ⟨p, none⟩ = (cutQ s p i, if (decide (cutQ s p i = []) || decide (cutQ s p i = kOr)) = true then failQ ⟨p + i, none⟩ (p + i) else ⟨p + i, none⟩) := by
  unfold valQ
  rw [if_neg (by rw [hq]; decide), if_neg (by simp)]
  dsimp only
  rw [h, ← cut_nat, cutQ_len hi]
  by_cases hb : (decide (cutQ s p i = []) || decide (cutQ s p i = kOr)) = true
  · rw [if_pos hb, if_pos (by simpa using hb)]; rfl
  · rw [if_neg hb, if_neg (by simpa using hb)]
theorem isq_any (b : Nat) (s : List UInt8) (r : QS) (c : UInt8) (w : World) (h0 : w.cell? ⟨b, 0, none⟩ = some (str s) ∧ b < w.heap.size) (h1 : w.cell? ⟨b, 1, none⟩ = some (.int .i64 (r.p : Int)) ∧ b < w.heap.size) (h2 : w.cell? ⟨b, 2, none⟩ = some (.int .i64 (wI r.w)) ∧ b < w.heap.size) :
    Calls Tryz.prog 40 #[selfQ b, .int .u8 ((c.toNat : Nat) : Int)] w fun e w' => e = .returned (.bool (isQ s r c)) ∧ Below w.heap.size w w' := by
  refine enter_args (args := [selfQ b, .int .u8 ((c.toNat : Nat) : Int)]) (F := _) Tryz.func40 rfl Tryz.ntmps40 rfl rfl ?_
  intro Rb hRb hRn
  refine tx ?_
  refine sr 1 ?_
  refine sgs ?_
  refine T_draws (by kernel_rfl) (by kernel_rfl) ?_
  refine d1 (y_move rfl rfl) ?_
  refine d1 (y_nilCheck rfl rfl) ?_
  refine d1 (yF fa46_2) ?_
  refine d1 (y_load_far rfl rfl h2.1 h2.2 Tryz.underlying3 rfl) ?_
  refine d1 (y_bin rfl rfl rfl (fun _ => b_lss)) ?_
  refine d1 (y_move rfl rfl) ?_
  refine dg rfl (y_move rfl rfl) ?_
  refine dg rfl (y_nilCheck rfl rfl) ?_
  refine dg rfl (yF fa46_1) ?_
  refine dg rfl (y_load_far rfl rfl h1.1 h1.2 Tryz.underlying3 rfl) ?_
  refine dg rfl (y_move rfl rfl) ?_
  refine dg rfl (y_nilCheck rfl rfl) ?_
  refine dg rfl (yF fa46_0) ?_
  refine dg rfl (y_load_far rfl rfl h0.1 h0.2 Tryz.underlying9 rfl) ?_
  refine dg rfl (y_len_str rfl rfl Tryz.underlying9) ?_
  refine dg rfl (y_bin rfl rfl rfl (fun _ => b_lss)) ?_
  refine d1 (y_and rfl rfl rfl) ?_
  refine d1 (y_move rfl rfl) ?_
  refine dg rfl (y_move rfl rfl) ?_
  refine dg rfl (y_nilCheck rfl rfl) ?_
  refine dg rfl (yF fa46_0) ?_
  refine dg rfl (y_load_far rfl rfl h0.1 h0.2 Tryz.underlying9 rfl) ?_
  refine dg rfl (y_move rfl rfl) ?_
  refine dg rfl (y_nilCheck rfl rfl) ?_
  refine dg rfl (yF fa46_1) ?_
  refine dg rfl (y_load_far rfl rfl h1.1 h1.2 Tryz.underlying3 rfl) ?_
  refine dg rfl (y_index_str rfl rfl rfl Tryz.underlying9 (fun hg => by simp only [Bool.true_and, Bool.and_eq_true, beq_iff_eq, decide_eq_true_eq, decide_eq_false_iff_not, Int.not_lt, Int.not_le] at hg; omega)) ?_
  refine dg rfl (y_move rfl rfl) ?_
  refine dg rfl (y_bin rfl rfl rfl (fun _ => b_eql)) ?_
  refine d1 (y_as (v' := .bool (isQ s r c)) (by exact congrArg Value.bool (is_eq s r c)) (y_and rfl rfl rfl)) ?_
  refine d1 (y_assign rfl rfl) ?_
  refine dgo ?_
  refine tr1 hRb fun w hM => ?_
  exact ⟨rfl, hM.below⟩
theorem rdc {B : Nat} {w : World} {b p : Nat} {s : List UInt8} {v : Int} (h : (rdN b s p v).sat B w) : (w.cell? ⟨b, 0, none⟩ = some (str s) ∧ b < w.heap.size) ∧ (w.cell? ⟨b, 1, none⟩ = some (.int .i64 (p : Int)) ∧ b < w.heap.size) ∧ (w.cell? ⟨b, 2, none⟩ = some (.int .i64 v) ∧ b < w.heap.size) := by
  have hl := (It.lt h b rfl).2
  obtain ⟨o, h1, h2, h3⟩ := h
  subst h3
  refine ⟨⟨?_, hl⟩, ⟨?_, hl⟩, ⟨?_, hl⟩⟩ <;> simp [World.cell?, h2]
theorem is_two {s : List UInt8} {k : Nat} (h : (!isQ s ⟨k + 1, none⟩ 34 && !isQ s ⟨k + 1, none⟩ 92) = false) : k + 1 < s.length ∧ (s.getD (k + 1) 0 = 34 ∨ s.getD (k + 1) 0 = 92) := by
  simp only [Bool.and_eq_false_iff, Bool.not_eq_false'] at h
  rcases h with h | h
  · exact ⟨(isQ_t h).2.1, .inl (isQ_t h).2.2⟩
  · exact ⟨(isQ_t h).2.1, .inr (isQ_t h).2.2⟩
theorem byte_is {c : UInt8} {n : Nat} (hn : n < 256) (h : decide (((c.toNat : Nat) : Int) = ((n : Nat) : Int)) = true) : c = UInt8.ofNat n := UInt8.toNat_inj.1 (by have := of_decide_eq_true h; rw [UInt8.toNat_ofNat']; omega)
theorem byte_no {c : UInt8} {n : Nat} (hn : n < 256) (h : decide (((c.toNat : Nat) : Int) = ((n : Nat) : Int)) = false) : c ≠ UInt8.ofNat n := fun e => (of_decide_eq_false h) (by rw [e, UInt8.toNat_ofNat']; omega)
theorem q46_t {bs : List UInt8} (h : (bareQ bs || decide (((bs.length : Nat) : Int) = 0)) = true) : bareQ bs = true ∨ bs = [] := by
  simp only [Bool.or_eq_true, decide_eq_true_eq] at h
  exact h.imp id fun h => List.length_eq_zero_iff.1 (by omega)
theorem q46_f {bs : List UInt8} (h : (bareQ bs || decide (((bs.length : Nat) : Int) = 0)) = false) : ¬ (bareQ bs = true ∨ bs = []) := by
  simp only [Bool.or_eq_false_iff, decide_eq_false_iff_not] at h
  rintro (h1 | h1)
  · rw [h.1] at h1; cases h1
  · exact h.2 (by rw [h1]; rfl)
theorem is_none {s : List UInt8} {k : Nat} (h : (!isQ s ⟨k + 1, none⟩ 34 && !isQ s ⟨k + 1, none⟩ 92) = true) : ∀ e, e = 34 ∨ e = 92 → isQ s ⟨k + 1, none⟩ e = false := by
  simp only [Bool.and_eq_true, Bool.not_eq_true'] at h
  rintro e (rfl | rfl)
  · exact h.1
  · exact h.2
theorem take1_any {w0 : World} {K : HL} (hK : FromK K) (b : Nat) (s : List UInt8) (p : Nat) (hs : s.length ≤ 1000000) (hq : isQ s ⟨p, none⟩ 34 = true) (w : World) (hM0 : Mem w0 ([(901, rdN b s p (-1))] ++ K) w) :
    Calls Tryz.prog 84 #[selfQ b, str [34]] w fun e w' => ∃ z : Unit, e = .returned (.tuple #[]) ∧ True ∧ Mem w0 ([(901, rdN b s (p + 1) (-1))] ++ K) w' := by
  have h := take_any hK b s [34] ⟨p, none⟩ (by decide) hs w hM0
  have e : takeQ s [34] ⟨p, none⟩ = ⟨p + 1, none⟩ := by rw [takeQ, if_pos hq]; rfl
  rw [e] at h
  exact h
theorem quoted_any {w0 : World} {K : HL} (hK : FromK K) (b : Nat) (s : List UInt8) (p : Nat) (hs : s.length ≤ 1000000) (hq : isQ s ⟨p, none⟩ 34 = true) (w : World) (hM0 : Mem w0 ([(901, rdI b s ⟨p, none⟩)] ++ K) w) :
    Calls Tryz.prog 104 #[selfQ b] w fun e w' => ∃ z : Unit, e = .returned (str (quoQ [] (s.drop (p + 1)) (p + 1)).1) ∧ True ∧ Mem w0 ([(901, rdI b s (quoQ [] (s.drop (p + 1)) (p + 1)).2)] ++ K) w' := by
  have hlt : p < s.length := (isQ_t hq).2.1
  have hM0 : Mem w0 ([(901, rdN b s p (-1))] ++ K) w := hM0
  have tk : takeQ s [34] ⟨p, none⟩ = ⟨p + 1, none⟩ := by rw [takeQ, if_pos hq]; rfl
  refine enterM_args (args := [selfQ b]) (F := _) hM0 Tryz.func104 rfl Tryz.ntmps104 rfl rfl ?_
  intro Rb hRb hRn
  refine tx ?_
  refine sr 1 ?_
  refine sgx ?_
  refine S_nilSlice 3 (e := 5) (size := 1) ?_
  refine sr 1 ?_
  refine sgx ?_
  refine sr 1 ?_
  refine S_callM 6 [(901, 901)] (X := Unit) rfl rfl rfl rfl rfl rfl rfl cf84 rfl (fun _ => .tuple #[]) (fun _ => True) (fun _ => [(901, rdN b s (p + 1) (-1))]) (fun _ => rfl) (fun _ => rfl) (fun K1 hK1 w hM => take1_any hK1 b s p hs hq w hM) ?_
  rintro ⟨⟩ _
  refine sgs ?_
  refine T_block ?_
  refine lK4 (kf := [(3, 4), (7, 102)]) (kl := [(3, 4), (7, 102), (901, 901)]) (fun (k : Nat) (bs : List UInt8) A c => [(3, true, .slice A bs.length c)]) (fun (k : Nat) (bs : List UInt8) A c => [(901, rdN b s k (-1)), (3, .own 5 1 (.slice A bs.length c) bs.length (bytesV bs))]) (fun (k : Nat) (bs : List UInt8) A c => k ≤ s.length ∧ bs.length ≤ k ∧ QuoAt s (p + 1) k bs none) (fun (k : Nat) (bs : List UInt8) A c => s.length - k) (p + 1) [] none 0 ?_ ?_ ?_ ?_
  · exact ⟨by omega, by simp, rfl, rfl⟩
  · exact ⟨rfl, trivial⟩
  · exact ⟨rfl, rfl, trivial⟩
  rintro k bs A c ⟨hp1, hp2, hp3⟩
  refine T_seq ?_
  refine tx ?_
  refine sr 1 ?_
  refine s1 (y_nilCheck rfl rfl) ?_
  refine s1 (yF fa46_2) ?_
  refine s1 (yL 901 Tryz.underlying3) ?_
  refine sr 1 ?_
  refine sgo ?_
  refine T_cond rfl ?_ ?_ <;> intro h11
  · try simp only [nrm] at h11
    refine kgo ?_
    refine T_block ?_
    refine T_seq ?_
    refine T_seq ?_
    refine T_draws (by kernel_rfl) (by kernel_rfl) ?_
    refine d1 (y_move rfl rfl) ?_
    refine d1 (y_nilCheck rfl rfl) ?_
    refine d1 (yF fa46_1) ?_
    refine d1 (yL 901 Tryz.underlying3) ?_
    refine d1 (y_move rfl rfl) ?_
    refine d1 (y_nilCheck rfl rfl) ?_
    refine d1 (yF fa46_0) ?_
    refine d1 (yL 901 Tryz.underlying9) ?_
    refine d1 (y_len_str rfl rfl Tryz.underlying9) ?_
    refine d1 (y_bin rfl rfl rfl (fun _ => b_eql)) ?_
    refine dgo ?_
    refine T_cond rfl ?_ ?_ <;> intro h21
    · try simp only [nrm] at h21
      refine tx ?_
      refine sr 2 ?_
      refine s1 (y_nilCheck rfl rfl) ?_
      refine s1 (yF fa46_1) ?_
      refine s1 (yL 901 Tryz.underlying3) ?_
      refine S_callM 27 [(901, 901)] (X := Unit) rfl rfl rfl rfl rfl rfl rfl cf44 rfl (fun _ => .tuple #[]) (fun _ => True) (fun _ => [(901, rdN b s (k) ((k : Int)))]) (fun _ => rfl) (fun _ => rfl) (fun K1 hK1 w hM => fail_any hK1 b s ⟨k, none⟩ k w hM) ?_
      rintro ⟨⟩ _
      refine sgo ?_
      refine egx ?_
      refine sr 1 ?_
      refine s1 (y_str_own 3 rfl rfl rfl Tryz.underlying79 Tryz.underlying5 Tryz.underlying9) ?_
      refine sr 1 ?_
      refine sgo ?_
      refine tr1 hRb fun w hM => ?_
      rw [quo_end hp3 (by omega)]; exact ⟨(), rfl, trivial, hM.keep (ks := [(0, 999)]) (by repeat (first | exact kl_rest (by assumption) rfl | (apply kl_in; focus rfl))) _ ⟨rfl, trivial⟩⟩
    try simp only [nrm] at h21
    refine kgs ?_
    refine T_draws (by kernel_rfl) (by kernel_rfl) ?_
    refine d1 (y_move rfl rfl) ?_
    refine d1 (y_nilCheck rfl rfl) ?_
    refine d1 (yF fa46_0) ?_
    refine d1 (yL 901 Tryz.underlying9) ?_
    refine d1 (y_move rfl rfl) ?_
    refine d1 (y_nilCheck rfl rfl) ?_
    refine d1 (yF fa46_1) ?_
    refine d1 (yL 901 Tryz.underlying3) ?_
    refine d1 (y_index_str rfl rfl rfl Tryz.underlying9 (fun _ => by omega)) ?_
    refine d1 (y_assign rfl rfl) ?_
    refine dgs ?_
    refine tx ?_
    refine sr 2 ?_
    refine sgo ?_
    refine T_cond rfl ?_ ?_ <;> intro h38
    · skip
      refine T_seq ?_
      refine tx ?_
      refine sr 1 ?_
      refine s1 (y_str_own 3 rfl rfl rfl Tryz.underlying79 Tryz.underlying5 Tryz.underlying9) ?_
      refine s1 (y_call rfl rfl rfl cf79 (fun _ w _ => bare_any bs (by omega) w)) ?_
      refine sr 1 ?_
      refine sg rfl (y_move rfl rfl) ?_
      refine sg rfl (y_len_slice rfl rfl Tryz.underlying79) ?_
      refine sg rfl (y_bin rfl rfl rfl (fun _ => b_eql)) ?_
      refine s1 (y_or rfl rfl rfl) ?_
      refine sgo ?_
      refine T_cond rfl ?_ ?_ <;> intro h46
      · skip
        refine T_region ?_
        refine sr 2 ?_
        refine s1 (y_nilCheck rfl rfl) ?_
        refine s1 (yF fa46_1) ?_
        refine s1 (yL 901 Tryz.underlying3) ?_
        refine S_callM 52 [(901, 901)] (X := Unit) rfl rfl rfl rfl rfl rfl rfl cf44 rfl (fun _ => .tuple #[]) (fun _ => True) (fun _ => [(901, rdN b s (k) ((k : Int)))]) (fun _ => rfl) (fun _ => rfl) (fun K1 hK1 w hM => fail_any hK1 b s ⟨k, none⟩ k w hM) ?_
        rintro ⟨⟩ _
        refine sgx ?_
        refine sr 1 ?_
        refine s1 (y_nilCheck rfl rfl) ?_
        refine s1 (yF fa46_1) ?_
        refine s1 (yL 901 Tryz.underlying3) ?_
        refine s1 (y_bin rfl rfl rfl (fun hg => b_addv (((k + 1 : Nat) : Int)) (by omega) (by omega))) ?_
        refine s1 (y_nilCheck rfl rfl) ?_
        refine s1 (yF fa46_1) ?_
        refine S_store 901 rfl rfl rfl rfl rfl rfl sz3 rfl rfl ?_
        refine sgo ?_
        refine egx ?_
        refine sr 1 ?_
        refine s1 (y_str_own 3 rfl rfl rfl Tryz.underlying79 Tryz.underlying5 Tryz.underlying9) ?_
        refine sr 1 ?_
        refine sgo ?_
        refine tr1 hRb fun w hM => ?_
        rw [quo_q hp3 (by omega) (byte_is (n := 34) (by decide) h38), if_pos (q46_t h46)]; exact ⟨(), rfl, trivial, hM.keep (ks := [(0, 999)]) (by repeat (first | exact kl_rest (by assumption) rfl | (apply kl_in; focus rfl))) _ ⟨rfl, trivial⟩⟩
      refine kgx ?_
      refine sr 1 ?_
      refine s1 (y_nilCheck rfl rfl) ?_
      refine s1 (yF fa46_1) ?_
      refine s1 (yL 901 Tryz.underlying3) ?_
      refine s1 (y_bin rfl rfl rfl (fun hg => b_addv (((k + 1 : Nat) : Int)) (by omega) (by omega))) ?_
      refine s1 (y_nilCheck rfl rfl) ?_
      refine s1 (yF fa46_1) ?_
      refine S_store 901 rfl rfl rfl rfl rfl rfl sz3 rfl rfl ?_
      refine sgo ?_
      refine egx ?_
      refine sr 1 ?_
      refine s1 (y_str_own 3 rfl rfl rfl Tryz.underlying79 Tryz.underlying5 Tryz.underlying9) ?_
      refine sr 1 ?_
      refine sgo ?_
      refine tr1 hRb fun w hM => ?_
      rw [quo_q hp3 (by omega) (byte_is (n := 34) (by decide) h38), if_neg (q46_f h46)]; exact ⟨(), rfl, trivial, hM.keep (ks := [(0, 999)]) (by repeat (first | exact kl_rest (by assumption) rfl | (apply kl_in; focus rfl))) _ ⟨rfl, trivial⟩⟩
    refine kgs ?_
    refine tx ?_
    refine sr 2 ?_
    refine sgo ?_
    refine T_cond rfl ?_ ?_ <;> intro h61
    · skip
      refine tx ?_
      refine sr 1 ?_
      refine s1 (y_nilCheck rfl rfl) ?_
      refine s1 (yF fa46_1) ?_
      refine s1 (yL 901 Tryz.underlying3) ?_
      refine s1 (y_bin rfl rfl rfl (fun hg => b_addv (((k + 1 : Nat) : Int)) (by omega) (by omega))) ?_
      refine s1 (y_nilCheck rfl rfl) ?_
      refine s1 (yF fa46_1) ?_
      refine S_store 901 rfl rfl rfl rfl rfl rfl sz3 rfl rfl ?_
      refine sgs ?_
      refine tx ?_
      refine sr 1 ?_
      refine s1 (y_call rfl rfl rfl cf40 (fun _ w hM => isq_any b s ⟨k + 1, none⟩ 34 w (rdc (hM.sat 901 _ rfl)).1 (rdc (hM.sat 901 _ rfl)).2.1 (rdc (hM.sat 901 _ rfl)).2.2)) ?_
      refine sr 2 ?_
      refine sg rfl (y_move rfl rfl) ?_
      refine sg rfl (y_call rfl rfl rfl cf40 (fun _ w hM => isq_any b s ⟨k + 1, none⟩ 92 w (rdc (hM.sat 901 _ rfl)).1 (rdc (hM.sat 901 _ rfl)).2.1 (rdc (hM.sat 901 _ rfl)).2.2)) ?_
      refine sg rfl (y_not rfl rfl) ?_
      refine s1 (y_and rfl rfl rfl) ?_
      refine sgo ?_
      refine T_cond rfl ?_ ?_ <;> intro h76
      · skip
        refine tx ?_
        refine sr 2 ?_
        refine s1 (y_nilCheck rfl rfl) ?_
        refine s1 (yF fa46_1) ?_
        refine s1 (yL 901 Tryz.underlying3) ?_
        refine S_callM 82 [(901, 901)] (X := Unit) rfl rfl rfl rfl rfl rfl rfl cf44 rfl (fun _ => .tuple #[]) (fun _ => True) (fun _ => [(901, rdN b s (k + 1) (((k + 1 : Nat) : Int)))]) (fun _ => rfl) (fun _ => rfl) (fun K1 hK1 w hM => fail_any hK1 b s ⟨k + 1, none⟩ (k + 1) w hM) ?_
        rintro ⟨⟩ _
        refine sgo ?_
        refine egx ?_
        refine sr 1 ?_
        refine s1 (y_str_own 3 rfl rfl rfl Tryz.underlying79 Tryz.underlying5 Tryz.underlying9) ?_
        refine sr 1 ?_
        refine sgo ?_
        refine tr1 hRb fun w hM => ?_
        rw [quo_bad hp3 (by omega) (byte_is (n := 92) (by decide) h61) (is_none h76)]; exact ⟨(), rfl, trivial, hM.keep (ks := [(0, 999)]) (by repeat (first | exact kl_rest (by assumption) rfl | (apply kl_in; focus rfl))) _ ⟨rfl, trivial⟩⟩
      have hk1 : k + 1 < s.length ∧ (s.getD (k + 1) 0 = 34 ∨ s.getD (k + 1) 0 = 92) := is_two h76
      refine kgo ?_
      refine T_draws (by kernel_rfl) (by kernel_rfl) ?_
      refine d1 (y_move rfl rfl) ?_
      refine d1 (y_nilCheck rfl rfl) ?_
      refine d1 (yF fa46_0) ?_
      refine d1 (yL 901 Tryz.underlying9) ?_
      refine d1 (y_move rfl rfl) ?_
      refine d1 (y_nilCheck rfl rfl) ?_
      refine d1 (yF fa46_1) ?_
      refine d1 (yL 901 Tryz.underlying3) ?_
      refine d1 (y_index_str rfl rfl rfl Tryz.underlying9 (fun _ => by omega)) ?_
      refine d1 (y_assign rfl rfl) ?_
      refine dgx ?_
      refine sr 2 ?_
      refine S_buildSlice 94 94 rfl rfl rfl rfl rfl Tryz.underlying79 inf5 rfl (by decide) (by decide) rfl rfl (by decide) rfl (_) rfl ?_
      intro b94
      obtain ⟨i95, hi95, hz95, hs95, hy95⟩ := info_parts inf5
      refine S_append 95 3 94 rfl rfl rfl rfl rfl rfl rfl rfl Tryz.underlying79 hi95 hz95 hs95 hy95 rfl (by decide) (by decide) rfl ?_ ?_ ((bs ++ [s.getD (k + 1) 0]).length) (bytesV (bs ++ [s.getD (k + 1) 0])) ?_ ?_ ?_
      · (simp only [maxLen]; omega)
      · omega
      · simp
      · rw [bytesV_snoc]; rfl
      intro A95 c95
      refine sr 1 ?_
      refine sgr ?_
      refine sr 1 ?_
      refine s1 (y_nilCheck rfl rfl) ?_
      refine s1 (yF fa46_1) ?_
      refine s1 (yL 901 Tryz.underlying3) ?_
      refine s1 (y_bin rfl rfl rfl (fun hg => b_add (by omega))) ?_
      refine s1 (y_nilCheck rfl rfl) ?_
      refine s1 (yF fa46_1) ?_
      refine S_store 901 rfl rfl rfl rfl rfl rfl sz3 rfl rfl ?_
      refine S_nil (nK4 (kf := [(3, 4), (7, 102)]) (kl := [(3, 4), (7, 102), (901, 901)]) (k + 2) (bs ++ [s.getD (k + 1) 0]) A95 c95 ?_ ?_ ?_ ?_)
      · omega
      · exact ⟨by omega, by simp; omega, quo_esc2 hp3 hk1.1 (byte_is (n := 92) (by decide) h61) hk1.2⟩
      · exact ⟨rfl, trivial⟩
      · exact ⟨rfl, rfl, trivial⟩
    refine kgx ?_
    refine sr 2 ?_
    refine S_buildSlice 94 94 rfl rfl rfl rfl rfl Tryz.underlying79 inf5 rfl (by decide) (by decide) rfl rfl (by decide) rfl (_) rfl ?_
    intro b94
    obtain ⟨i95, hi95, hz95, hs95, hy95⟩ := info_parts inf5
    refine S_append 95 3 94 rfl rfl rfl rfl rfl rfl rfl rfl Tryz.underlying79 hi95 hz95 hs95 hy95 rfl (by decide) (by decide) rfl ?_ ?_ ((bs ++ [s.getD k 0]).length) (bytesV (bs ++ [s.getD k 0])) ?_ ?_ ?_
    · (simp only [maxLen]; omega)
    · omega
    · simp
    · rw [bytesV_snoc]; rfl
    intro A95 c95
    refine sr 1 ?_
    refine sgr ?_
    refine sr 1 ?_
    refine s1 (y_nilCheck rfl rfl) ?_
    refine s1 (yF fa46_1) ?_
    refine s1 (yL 901 Tryz.underlying3) ?_
    refine s1 (y_bin rfl rfl rfl (fun hg => b_add (by omega))) ?_
    refine s1 (y_nilCheck rfl rfl) ?_
    refine s1 (yF fa46_1) ?_
    refine S_store 901 rfl rfl rfl rfl rfl rfl sz3 rfl rfl ?_
    refine S_nil (nK4 (kf := [(3, 4), (7, 102)]) (kl := [(3, 4), (7, 102), (901, 901)]) (k + 1) (bs ++ [s.getD k 0]) A95 c95 ?_ ?_ ?_ ?_)
    · omega
    · exact ⟨by omega, by simp; omega, quo_step hp3 (by omega) (byte_no (n := 34) (by decide) h38) (byte_no (n := 92) (by decide) h61)⟩
    · exact ⟨rfl, trivial⟩
    · exact ⟨rfl, rfl, trivial⟩
  try simp only [nrm] at h11
  refine egx ?_
  refine sr 1 ?_
  refine s1 (y_str_own 3 rfl rfl rfl Tryz.underlying79 Tryz.underlying5 Tryz.underlying9) ?_
  refine sr 1 ?_
  refine sgo ?_
  refine tr1 hRb fun w hM => ?_
  exact absurd h11 (by decide)
theorem value_any {w0 : World} {K : HL} (hK : FromK K) (b : Nat) (s : List UInt8) (p : Nat) (hs : s.length ≤ 1000000) (hr : p ≤ s.length) (w : World) (hM0 : Mem w0 ([(901, rdI b s ⟨p, none⟩)] ++ K) w) :
    Calls Tryz.prog 81 #[selfQ b] w fun e w' => ∃ z : Unit, e = .returned (str (valQ s ⟨p, none⟩).1) ∧ True ∧ Mem w0 ([(901, rdI b s (valQ s ⟨p, none⟩).2)] ++ K) w' := by
  have hM0 : Mem w0 ([(901, rdN b s p (-1))] ++ K) w := hM0
  refine enterM_args (args := [selfQ b]) (F := _) hM0 Tryz.func81 rfl Tryz.ntmps81 rfl rfl ?_
  intro Rb hRb hRn
  refine tx ?_
  refine sr 1 ?_
  refine sgs ?_
  refine tx ?_
  refine sr 1 ?_
  refine S_callM 6 [(901, 901)] (X := Unit) rfl rfl rfl rfl rfl rfl rfl cf40 rfl (fun _ => .bool (isQ s ⟨p, none⟩ 34)) (fun _ => True) (fun _ => [(901, rdN b s p (-1))]) (fun _ => rfl) (fun _ => rfl) (fun K1 hK1 w hM => is_any hK1 b s ⟨p, none⟩ 34 w hM) ?_
  rintro ⟨⟩ _
  refine sgo ?_
  refine T_cond rfl ?_ ?_ <;> intro h6
  · skip
    refine tx ?_
    refine sr 1 ?_
    refine S_callM 8 [(901, 901)] (X := Unit) rfl rfl rfl rfl rfl rfl rfl cf104 rfl (fun _ => str (quoQ [] (s.drop (p + 1)) (p + 1)).1) (fun _ => True) (fun _ => [(901, rdI b s (quoQ [] (s.drop (p + 1)) (p + 1)).2)]) (fun _ => rfl) (fun _ => rfl) (fun K1 hK1 w hM => quoted_any hK1 b s p hs h6 w hM) ?_
    rintro ⟨⟩ _
    refine sr 1 ?_
    refine sgo ?_
    refine tr1 hRb fun w hM => ?_
    refine ⟨(), ?_, trivial, ?_⟩
    · rw [valQ, if_pos h6]
    · rw [valQ, if_pos h6]; exact hM.keep (ks := [(0, 999)]) (by repeat (first | exact kl_rest (by assumption) rfl | (apply kl_in; focus rfl))) _ ⟨rfl, trivial⟩
  refine kgx ?_
  refine sr 1 ?_
  refine s1 (y_nilCheck rfl rfl) ?_
  refine s1 (yF fa46_1) ?_
  refine s1 (yL 901 Tryz.underlying3) ?_
  refine sr 1 ?_
  refine sgs ?_
  refine T_block ?_
  refine lK1 (kf := [(13, 68)]) (kl := [(13, 68), (901, 901)]) (fun (i : Nat) => []) (fun (i : Nat) => [(901, rdN b s (p + i) (-1))]) (fun (i : Nat) => p + i ≤ s.length ∧ barLen (s.drop p) 0 = i + barLen (s.drop (p + i)) i) (fun (i : Nat) => s.length - (p + i)) 0 ?_ ?_ ?_ ?_
  · exact ⟨by omega, by simp⟩
  · exact trivial
  · exact ⟨rfl, trivial⟩
  rintro i ⟨hp1, hp2⟩
  refine T_seq ?_
  refine T_seq ?_
  refine T_draws (by kernel_rfl) (by kernel_rfl) ?_
  refine d1 (y_move rfl rfl) ?_
  refine d1 (y_nilCheck rfl rfl) ?_
  refine d1 (yF fa46_2) ?_
  refine d1 (yL 901 Tryz.underlying3) ?_
  refine d1 (y_bin rfl rfl rfl (fun _ => b_lss)) ?_
  refine d1 (y_move rfl rfl) ?_
  refine dg rfl (y_move rfl rfl) ?_
  refine dg rfl (y_nilCheck rfl rfl) ?_
  refine dg rfl (yF fa46_1) ?_
  refine dg rfl (yL 901 Tryz.underlying3) ?_
  refine dg rfl (y_move rfl rfl) ?_
  refine dg rfl (y_nilCheck rfl rfl) ?_
  refine dg rfl (yF fa46_0) ?_
  refine dg rfl (yL 901 Tryz.underlying9) ?_
  refine dg rfl (y_len_str rfl rfl Tryz.underlying9) ?_
  refine dg rfl (y_bin rfl rfl rfl (fun _ => b_lss)) ?_
  refine d1 (y_and rfl rfl rfl) ?_
  refine d1 (y_move rfl rfl) ?_
  refine dg rfl (y_move rfl rfl) ?_
  refine dg rfl (y_nilCheck rfl rfl) ?_
  refine dg rfl (yF fa46_0) ?_
  refine dg rfl (yL 901 Tryz.underlying9) ?_
  refine dg rfl (y_move rfl rfl) ?_
  refine dg rfl (y_nilCheck rfl rfl) ?_
  refine dg rfl (yF fa46_1) ?_
  refine dg rfl (yL 901 Tryz.underlying3) ?_
  refine dg rfl (y_index_str rfl rfl rfl Tryz.underlying9 (fun hg => by simp only [Bool.true_and, Bool.and_eq_true, beq_iff_eq, decide_eq_true_eq, decide_eq_false_iff_not, Int.not_lt, Int.not_le] at hg; omega)) ?_
  refine dg rfl (y_call rfl rfl rfl cf102 (fun _ w _ => isBare_any _ w)) ?_
  refine d1 (y_and rfl rfl rfl) ?_
  refine d1 (y_move rfl rfl) ?_
  refine dg rfl (y_move rfl rfl) ?_
  refine dg rfl (y_nilCheck rfl rfl) ?_
  refine dg rfl (yF fa46_1) ?_
  refine dg rfl (yL 901 Tryz.underlying3) ?_
  refine dg rfl (y_move rfl rfl) ?_
  refine dg rfl (y_bin rfl rfl rfl (fun _ => b_gtr)) ?_
  refine dg rfl (y_move rfl rfl) ?_
  refine dg rfl (y_move rfl rfl) ?_
  refine dg rfl (y_nilCheck rfl rfl) ?_
  refine dg rfl (yF fa46_0) ?_
  refine dg rfl (yL 901 Tryz.underlying9) ?_
  refine dg rfl (y_move rfl rfl) ?_
  refine dg rfl (y_nilCheck rfl rfl) ?_
  refine dg rfl (yF fa46_1) ?_
  refine dg rfl (yL 901 Tryz.underlying3) ?_
  refine dg rfl (y_index_str rfl rfl rfl Tryz.underlying9 (fun hg => by simp only [Bool.true_and, Bool.and_eq_true, beq_iff_eq, decide_eq_true_eq, decide_eq_false_iff_not, Int.not_lt, Int.not_le] at hg; omega)) ?_
  refine dg rfl (y_bin rfl rfl rfl (fun _ => b_neq)) ?_
  refine dg rfl (y_or rfl rfl rfl) ?_
  refine d1 (y_as (v' := .bool (vaGo s p i)) (by exact congrArg Value.bool (vaGo_eq s p i)) (y_and rfl rfl rfl)) ?_
  refine dgo ?_
  refine T_cond rfl ?_ ?_ <;> intro h61
  · skip
    have hlt : p + i < s.length := va_lt h61
    refine kgo ?_
    refine T_block ?_
    refine T_region ?_
    refine sr 1 ?_
    refine s1 (y_nilCheck rfl rfl) ?_
    refine s1 (yF fa46_1) ?_
    refine s1 (yL 901 Tryz.underlying3) ?_
    refine s1 (y_bin rfl rfl rfl (fun hg => b_add (by omega))) ?_
    refine s1 (y_nilCheck rfl rfl) ?_
    refine s1 (yF fa46_1) ?_
    refine S_store 901 rfl rfl rfl rfl rfl rfl sz3 rfl rfl ?_
    refine S_nil (nK1 (kf := [(13, 68)]) (kl := [(13, 68), (901, 901)]) (i + 1) ?_ ?_ ?_ ?_)
    · omega
    · exact ⟨by omega, by rw [hp2, va_next h61]; omega⟩
    · exact trivial
    · exact ⟨rfl, trivial⟩
  refine egs ?_
  refine T_draws (by kernel_rfl) (by kernel_rfl) ?_
  refine d1 (y_move rfl rfl) ?_
  refine d1 (y_nilCheck rfl rfl) ?_
  refine d1 (yF fa46_0) ?_
  refine d1 (yL 901 Tryz.underlying9) ?_
  refine d1 (y_move rfl rfl) ?_
  refine d1 (y_move rfl rfl) ?_
  refine d1 (y_nilCheck rfl rfl) ?_
  refine d1 (yF fa46_1) ?_
  refine d1 (yL 901 Tryz.underlying3) ?_
  refine d1 (y_as (v' := str (cutQ s p i)) (by exact rfl) (y_strSub rfl rfl rfl rfl Tryz.underlying9 (fun _ => by omega))) ?_
  refine d1 (y_assign rfl rfl) ?_
  refine dgs ?_
  refine tx ?_
  refine sr 1 ?_
  refine s1 (y_bin rfl rfl rfl (fun _ => b_eqls)) ?_
  refine sr 1 ?_
  refine sg rfl (y_move rfl rfl) ?_
  refine sg rfl (y_bin rfl rfl rfl (fun _ => b_eqls)) ?_
  refine s1 (y_or rfl rfl rfl) ?_
  refine sgo ?_
  refine T_cond rfl ?_ ?_ <;> intro h84
  · skip
    refine T_region ?_
    refine sr 2 ?_
    refine s1 (y_nilCheck rfl rfl) ?_
    refine s1 (yF fa46_1) ?_
    refine s1 (yL 901 Tryz.underlying3) ?_
    refine S_callM 90 [(901, 901)] (X := Unit) rfl rfl rfl rfl rfl rfl rfl cf44 rfl (fun _ => .tuple #[]) (fun _ => True) (fun _ => [(901, rdN b s (p + i) (((p + i : Nat) : Int)))]) (fun _ => rfl) (fun _ => rfl) (fun K1 hK1 w hM => fail_any hK1 b s ⟨p + i, none⟩ (p + i) w hM) ?_
    rintro ⟨⟩ _
    refine sgx ?_
    refine sr 2 ?_
    refine sgo ?_
    refine tr1 hRb fun w hM => ?_
    have e := valQ_of h6 (by rw [hp2, va_stop h61]; rfl) hp1
    refine ⟨(), ?_, trivial, ?_⟩
    · rw [e]
    · rw [e, if_pos h84]; exact hM.keep (ks := [(0, 999)]) (by repeat (first | exact kl_rest (by assumption) rfl | (apply kl_in; focus rfl))) _ ⟨rfl, trivial⟩
  refine kgx ?_
  refine sr 2 ?_
  refine sgo ?_
  refine tr1 hRb fun w hM => ?_
  have e := valQ_of h6 (by rw [hp2, va_stop h61]; rfl) hp1
  refine ⟨(), ?_, trivial, ?_⟩
  · rw [e]
  · rw [e, if_neg (by rw [h84]; decide)]; exact hM.keep (ks := [(0, 999)]) (by repeat (first | exact kl_rest (by assumption) rfl | (apply kl_in; focus rfl))) _ ⟨rfl, trivial⟩
end Go.Proofs.YtfcedlfeinnhoaaGreatDoor
end
section
namespace Go.Proofs.YtfcedlfeinnhoaaGreatDoor
set_option linter.unusedSimpArgs false
set_option linter.unusedVariables false
set_option maxRecDepth 20000
open Go.RowKit Go.Eng
theorem wrap8_in {V : Int} (h : 0 ≤ V ∧ V ≤ 255) : IntKind.u8.wrap V = V := IntWalk.u8_in _ (by omega)
theorem bytesV_at {s : List UInt8} {i : Nat} (h : i < s.length) : (bytesV s)[i]? = some (.int .u8 (((s.getD i 0).toNat : Nat) : Int)) := by
  simp [bytesV, List.getElem?_map, List.getElem?_eq_getElem h, List.getD_eq_getElem?_getD]
theorem getD_mem {s : List UInt8} {i : Nat} (h : i < s.length) : s.getD i 0 ∈ s := by
  rw [List.getD_eq_getElem?_getD, List.getElem?_eq_getElem h]; exact List.getElem_mem h
theorem take_getD {s : List UInt8} {i : Nat} (h : i < s.length) : s.take (i + 1) = s.take i ++ [s.getD i 0] := by
  rw [List.getD_eq_getElem?_getD, List.getElem?_eq_getElem h, List.take_succ_eq_append_getElem h]; rfl
theorem iAtoi_any (s : List UInt8) (h0 : s ≠ []) (h6 : s.length ≤ 18) (hd : ∀ c ∈ s, 48 ≤ c.toNat ∧ c.toNat ≤ 57) (w : World) :
    Calls Tryz.prog 122 #[str s] w fun e w' => e = .returned (.tuple #[.int .i64 (valD s : Nat), .nilIface]) ∧ Below w.heap.size w w' := by
  have hl : 0 < s.length := List.length_pos_iff.2 h0
  have hd0 := hd _ (getD_mem (i := 0) hl)
  refine enter_args (args := [str s]) (F := _) Tryz.func122 rfl Tryz.ntmps122 rfl rfl ?_
  intro Rb hRb hRn
  refine tx ?_
  refine sr 2 ?_
  refine sgx ?_
  refine sr 1 ?_
  refine s1 (y_len_str rfl rfl Tryz.underlying9) ?_
  refine sr 1 ?_
  refine sgs ?_
  refine tx ?_
  refine sr 1 ?_
  refine sg rfl (y_move rfl rfl) ?_
  refine sg rfl (y_bin rfl rfl rfl (fun _ => b_lss)) ?_
  refine sg rfl (y_move rfl rfl) ?_
  refine sg rfl (y_move rfl rfl) ?_
  refine sg rfl (y_bin rfl rfl rfl (fun _ => b_lss)) ?_
  refine sg rfl (y_and rfl rfl rfl) ?_
  refine s1 (y_and rfl rfl rfl) ?_
  refine sr 1 ?_
  refine sg rfl (y_move rfl rfl) ?_
  refine sg rfl (y_move rfl rfl) ?_
  refine sg rfl (y_bin rfl rfl rfl (fun _ => b_lss)) ?_
  refine sg rfl (y_move rfl rfl) ?_
  refine sg rfl (y_move rfl rfl) ?_
  refine sg rfl (y_bin rfl rfl rfl (fun _ => b_lss)) ?_
  refine sg rfl (y_and rfl rfl rfl) ?_
  refine sg rfl (y_and rfl rfl rfl) ?_
  refine s1 (y_or rfl rfl rfl) ?_
  refine sgo ?_
  refine T_cond rfl ?_ ?_ <;> intro h30
  · skip
    refine tx ?_
    refine sr 2 ?_
    refine sgs ?_
    refine tx ?_
    refine sr 1 ?_
    refine s1 (y_index_str (j := 0) rfl rfl rfl Tryz.underlying9 (fun _ => hl)) ?_
    refine sr 2 ?_
    refine sg rfl (y_move rfl rfl) ?_
    refine sg rfl (y_index_str (j := 0) rfl rfl rfl Tryz.underlying9 (fun _ => hl)) ?_
    refine sg rfl (y_bin rfl rfl rfl (fun _ => b_eql)) ?_
    refine s1 (y_or rfl rfl rfl) ?_
    refine sgo ?_
    refine T_cond rfl ?_ ?_ <;> intro h39
    · skip
      simp only [Bool.or_eq_true, decide_eq_true_eq] at h39
      omega
    refine kgx ?_
    refine sr 1 ?_
    refine sgs ?_
    refine tx ?_
    refine sr 1 ?_
    refine S_strBytes 47 47 rfl rfl rfl rfl rfl Tryz.underlying9 Tryz.underlying79 Tryz.underlying5 ?_
    intro b47 c47
    refine s1 (y_len_slice rfl rfl Tryz.underlying79) ?_
    refine sr 1 ?_
    refine sgo ?_
    refine T_block ?_
    refine lK2 (kf := [(2, 3), (6, 6), (8, 8), (49, 63)]) (kl := [(2, 3), (6, 6), (8, 8), (49, 63)]) (fun (i m : Nat) => [(49, true, .int .i64 (i : Int)), (6, true, .int .i64 (m : Int))]) (fun (i m : Nat) => []) (fun (i m : Nat) => i ≤ s.length ∧ m < 10 ^ i ∧ valD (s.take i) = m) (fun (i m : Nat) => s.length - i) 0 0 ?_ ?_ ?_ ?_
    · exact ⟨by omega, by decide, rfl⟩
    · exact ⟨rfl, rfl, trivial⟩
    · exact trivial
    rintro i m ⟨hp1, hp2, hp3⟩
    refine tx ?_
    refine sr 1 ?_
    refine sgs ?_
    refine T_cond rfl ?_ ?_ <;> intro h50
    · try simp only [nrm] at h50
      have hdi := hd _ (getD_mem (i := i) (by omega))
      have hp10 : 10 ^ i ≤ 100000000000000000 := Nat.le_trans (Nat.pow_le_pow_right (by decide) (by omega : i ≤ 17)) (by decide)
      refine kgs ?_
      refine T_block ?_
      refine tx ?_
      refine s1 (y_indexAddr rfl rfl rfl Tryz.underlying79 sz5 (fun _ => rfl) (fun _ => by omega)) ?_
      refine s1 (y_loadRd 47 rfl rfl rfl (fun _ => bytesV_at (by omega)) Tryz.underlying5 rfl) ?_
      refine sr 1 ?_
      refine sgx ?_
      refine sr 1 ?_
      refine s1 (y_as (v' := .int .u8 (((s.getD i 0).toNat - 48 : Nat) : Int)) (by congr 1; rw [wrap8_in (by omega)]; omega) (y_bin rfl rfl rfl (fun hg => b_subw))) ?_
      refine sr 1 ?_
      refine sgs ?_
      refine tx ?_
      refine sr 2 ?_
      refine sgo ?_
      refine T_cond rfl ?_ ?_ <;> intro h56
      · try simp only [nrm] at h56
        omega
      try simp only [nrm] at h56
      refine kgr ?_
      refine sr 1 ?_
      refine s1 (y_bin rfl rfl rfl (fun hg => b_mulv (((m * 10 : Nat) : Int)) (by omega) (by omega))) ?_
      refine sr 1 ?_
      refine s1 (y_conv64 rfl rfl Tryz.underlying5 Tryz.underlying3 (fun _ => by omega)) ?_
      refine s1 (y_bin rfl rfl rfl (fun hg => b_addv (((m * 10 + ((s.getD i 0).toNat - 48) : Nat) : Int)) (by omega) (by omega))) ?_
      refine sr 1 ?_
      refine sgr ?_
      refine s1 (y_bin rfl rfl rfl (fun hg => b_add (by omega))) ?_
      refine sr 1 ?_
      refine S_nil (nK2 (kf := [(2, 3), (6, 6), (8, 8), (49, 63)]) (kl := [(2, 3), (6, 6), (8, 8), (49, 63)]) (i + 1) (m * 10 + ((s.getD i 0).toNat - 48)) ?_ ?_ ?_ ?_)
      · omega
      · exact ⟨by omega, by rw [Nat.pow_succ]; omega, by rw [take_getD (by omega), valD_snoc, hp3]⟩
      · exact ⟨rfl, rfl, trivial⟩
      · exact trivial
    try simp only [nrm] at h50
    refine egs ?_
    refine tx ?_
    refine sr 1 ?_
    refine s1 (y_index_str (j := 0) rfl rfl rfl Tryz.underlying9 (fun _ => hl)) ?_
    refine sr 1 ?_
    refine sgo ?_
    refine T_cond rfl ?_ ?_ <;> intro h66
    · skip
      simp only [decide_eq_true_eq] at h66
      omega
    refine kgx ?_
    refine sr 3 ?_
    refine sgo ?_
    refine tr2 hRb fun w hM => ?_
    have hv : valD s = m := by rw [← hp3, List.take_of_length_le (by omega)]
    exact ⟨by rw [hv], hM.below⟩
  simp at h30
  omega
theorem Atoi_any (s : List UInt8) (h0 : s ≠ []) (h6 : s.length ≤ 18) (hd : ∀ c ∈ s, 48 ≤ c.toNat ∧ c.toNat ≤ 57) (w : World) :
    Calls Tryz.prog 106 #[str s] w fun e w' => e = .returned (.tuple #[.int .i64 (valD s : Nat), .nilIface]) ∧ Below w.heap.size w w' := by
  refine enter_args (args := [str s]) (F := _) Tryz.func106 rfl Tryz.ntmps106 rfl rfl ?_
  intro Rb hRb hRn
  refine tx ?_
  refine sr 2 ?_
  refine sgx ?_
  refine sr 1 ?_
  refine s1 (y_call rfl rfl rfl cf122 (fun _ w _ => iAtoi_any s h0 h6 hd w)) ?_
  refine sr 5 ?_
  refine sgs ?_
  refine tx ?_
  refine sr 1 ?_
  refine s1 (y_bin rfl rfl rfl (fun _ => b_neqII Tryz.underlying83)) ?_
  refine sgo ?_
  refine T_cond rfl ?_ ?_ <;> intro h12
  · skip
    cases h12
  refine kgx ?_
  refine sr 3 ?_
  refine sgo ?_
  refine tr2 hRb fun w hM => ?_
  exact ⟨rfl, hM.below⟩
/-- the table of powers of ten lies there -/
def P10 (w : World) : Prop := Lib.TabIs Tryz.prog w "internal/strconv.uint64pow10" .u64 Lib.pow10Tab ∧ 2 < w.heap.size
theorem P10.below {w w' : World} (h : P10 w) (hb : Below w.heap.size w w') : P10 w' := by
  refine ⟨?_, Nat.lt_of_lt_of_le h.2 hb.size⟩
  have e : Tryz.prog.globalNamed "internal/strconv.uint64pow10" = some 2 := by kernel_rfl
  have h1 := h.1
  unfold Lib.TabIs World.var? at h1 ⊢
  rw [e] at h1 ⊢
  simp only [Option.bind_some] at h1 ⊢
  rw [hb.block _ h.2]; exact h1
theorem below_grow0 (w : World) (k : Nat) (os : Array Obj) : Below w.heap.size w (Sort.grow (w.drewN k) os) :=
  ⟨rfl, rfl, rfl, by show w.heap.size ≤ (w.heap ++ os).size; simp, fun j hj => by show (w.heap ++ os)[j]? = w.heap[j]?; rw [Array.getElem?_append, if_pos hj]⟩
theorem Itoa_any (n : Int) (h0 : -9223372036854775808 ≤ n) (h1 : n ≤ 9223372036854775807) (w : World) (hP : P10 w) :
    Calls Tryz.prog 30 #[.int .i64 n] w fun e w' => e = .returned (str (Lib.itoa n)) ∧ Below w.heap.size w w' :=
  (Any.strconv_Itoa Tryz.laysM171 n h0 h1 w hP.1).mono fun e w' ⟨h, k, os, hw⟩ => ⟨h, hw ▸ below_grow0 w k os⟩
/-- the error of a bad number lies there -/
def ErrV (w : World) : Prop := ∃ te pe, w.cell? ⟨5, 0, none⟩ = some (.iface te pe) ∧ 5 < w.heap.size
theorem ErrV.below {w w' : World} (h : ErrV w) (hb : Below w.heap.size w w') : ErrV w' := by
  obtain ⟨te, pe, h1, h2⟩ := h
  exact ⟨te, pe, (hb.cell h2).trans h1, Nat.lt_of_lt_of_le h2 hb.size⟩
theorem AtoiQ_any (d : List UInt8) (hl : d.length ≤ 18) (hd : ∀ c ∈ d, qDig c = true) (w : World) (hE : ErrV w) :
    Calls Tryz.prog 106 #[str d] w fun e w' => ∃ v, e = .returned (.tuple #[.int .i64 ((valD d : Nat) : Int), v]) ∧ Below w.heap.size w w' := by
  by_cases h0 : d = []
  · subst h0
    obtain ⟨te, pe, h1, h2⟩ := hE
    exact (Any.strconv_Atoi_syntax Tryz.laysC172 ⟨#[]⟩ (by decide) rfl _ w h1 (.inr ⟨te, pe, rfl⟩)).mono fun e w' ⟨N, h3, _, _, h4⟩ => ⟨_, h3, h4⟩
  · refine (Atoi_any d h0 hl (fun c hc => ?_) w).mono fun e w' ⟨h3, h4⟩ => ⟨_, h3, h4⟩
    have := hd c hc
    simp only [qDig, Bool.and_eq_true, decide_eq_true_eq] at this
    omega
end Go.Proofs.YtfcedlfeinnhoaaGreatDoor
end
