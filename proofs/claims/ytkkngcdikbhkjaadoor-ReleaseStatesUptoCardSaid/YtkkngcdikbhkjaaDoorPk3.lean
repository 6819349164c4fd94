/- Part 3, merged by a program. A state's words, read step by step and read in a loop: the same. Plain lists; no program in sight. -/
import Derived.Test.YtkkngcdikbhkjaaDoorPk2
namespace Go.Proofs.YtkkngcdikbhkjaaDoor
set_option linter.unusedSimpArgs false
set_option linter.unusedVariables false
set_option maxRecDepth 20000
open Go.RowKit Go.Eng
abbrev wdOpen : List UInt8 := [111, 112, 101, 110]
abbrev wdRes : List UInt8 := [114, 101, 115, 111, 108, 118, 101, 100]
abbrev wdIgn : List UInt8 := [105, 103, 110, 111, 114, 101, 100]
abbrev wdAt : List UInt8 := [97, 116]
abbrev wdIn : List UInt8 := [105, 110]
abbrev wdAfter : List UInt8 := [97, 102, 116, 101, 114]
abbrev wdTill : List UInt8 := [116, 105, 108, 108]
abbrev wdMore : List UInt8 := [109, 111, 114, 101]
abbrev wdPpl : List UInt8 := [112, 101, 111, 112, 108, 101]
abbrev wdAgain : List UInt8 := [97, 103, 97, 105, 110]
def idxF (s : List UInt8) : List (List UInt8) → Int → Int
  | [], _ => -1
  | x :: r, i => if s = x then i else idxF s r (i + 1)
abbrev sNum (s : List UInt8) : Int := ((plainJ s 10 : Nat) : Int)
def isW (w : List UInt8) (l : List (List UInt8)) : Bool := decide ((1 : Int) < ((l.length : Nat) : Int)) && decide (l.getD 0 [] = w)
abbrev StR := PSt × Bool × List (List UInt8)
def stp (w : List UInt8) (set : PSt → Int → PSt) (z : StR) : StR := if isW w z.2.2 = true then (set z.1 (sNum (z.2.2.getD 1 [])), z.2.1 && plainOk (z.2.2.getD 1 []) 10, z.2.2.drop 2) else z
def setAt (s : PSt) (n : Int) : PSt := { s with at_ := n }
def setTill (s : PSt) (n : Int) : PSt := { s with till := n }
def setMore (s : PSt) (n : Int) : PSt := { s with more := n }
def setPpl (s : PSt) (n : Int) : PSt := { s with ppl := n }
def setAgain (s : PSt) (n : Int) : PSt := { s with again := n }
def stAt (z : StR) : StR := ((stp wdAt setAt z).1, isW wdAt z.2.2 && (stp wdAt setAt z).2.1, (stp wdAt setAt z).2.2)
def stIn (z : StR) : StR := if (isW wdIn z.2.2 || isW wdAfter z.2.2) = true then ({ z.1 with nx := isW wdAfter z.2.2, inn := z.2.2.getD 1 [] }, z.2.1 && !decide (z.2.2.getD 1 [] = []), z.2.2.drop 2) else z
def stAgain (z : StR) : StR := if isW wdAgain z.2.2 = true then ((stp wdAgain setAgain z).1, (stp wdAgain setAgain z).2.1 && !decide ((stp wdAgain setAgain z).1.again = 0), (stp wdAgain setAgain z).2.2) else z
def kindS (w : List UInt8) : Int := idxF w [wdOpen, wdRes, wdIgn] 0 + 1
def st0 (k : Int) : PSt := ⟨k, 0, [], false, -1, -1, -1, 0⟩
def stB (W : List (List UInt8)) : StR := (st0 (kindS (W.getD 0 [])), decide (0 < kindS (W.getD 0 [])), W.drop 1)
def stZ (W : List (List UInt8)) : StR := stAgain (stp wdPpl setPpl (stp wdMore setMore (stp wdTill setTill (stIn (stAt (stB W))))))
def stEnd (z : StR) : Option PSt := if (z.2.1 && decide (((z.2.2.length : Nat) : Int) = 0)) = true then some z.1 else none
/-- what the program reads -/
def readW (W : List (List UInt8)) : Option PSt := stEnd (stZ W)
/-! ### The loop -/
def keyK (w : List UInt8) : Int := idxF w [wdAt, wdIn, wdAfter, wdTill, wdMore, wdPpl, wdAgain] 0
def badK (k last : Int) (first : Bool) : Bool := decide (k < 0) || decide (k ≤ last) || (decide (k = 2) && decide (last = 1)) || (first && !decide (k = 0))
def setK (k : Int) (s : PSt) (n : Int) : PSt := if k = 0 then setAt s n else if k = 3 then setTill s n else if k = 4 then setMore s n else if k = 5 then setPpl s n else setAgain s n
def loopK : List (List UInt8) → Int → Bool → PSt → Option PSt
  | w :: x :: r, last, first, s =>
    if badK (keyK w) last first = true then none
    else if keyK w = 1 ∨ keyK w = 2 then (if x = [] then none else loopK r (keyK w) false { s with inn := x, nx := decide (keyK w = 2) })
    else if (!plainOk x 10 || (decide (keyK w = 6) && decide (sNum x = 0))) = true then none else loopK r (keyK w) false (setK (keyK w) s (sNum x))
  | _, last, _, s => if last < 0 then none else some s
/-- what the reference reads -/
def readR (W : List (List UInt8)) : Option PSt :=
  if (decide (idxF (W.getD 0 []) [[], wdOpen, wdRes, wdIgn] 0 < 1) || decide (((W.length : Nat) : Int) % 2 = 0)) = true then none
  else loopK (W.drop 1) (-1) true (st0 (idxF (W.getD 0 []) [[], wdOpen, wdRes, wdIgn] 0))
theorem kind_idx (w : List UInt8) : (kindS w = 0 ∧ idxF w [[], wdOpen, wdRes, wdIgn] 0 < 1) ∨ (1 ≤ kindS w ∧ idxF w [[], wdOpen, wdRes, wdIgn] 0 = kindS w) := by
  unfold kindS
  by_cases h0 : w = []
  · subst h0; left; decide
  by_cases h1 : w = wdOpen
  · subst h1; right; decide
  by_cases h2 : w = wdRes
  · subst h2; right; decide
  by_cases h3 : w = wdIgn
  · subst h3; right; decide
  left
  simp [idxF, h0, h1, h2, h3]
theorem key_cases (w : List UInt8) : keyK w = -1 ∧ w ≠ wdAt ∧ w ≠ wdIn ∧ w ≠ wdAfter ∧ w ≠ wdTill ∧ w ≠ wdMore ∧ w ≠ wdPpl ∧ w ≠ wdAgain ∨ w = wdAt ∨ w = wdIn ∨ w = wdAfter ∨ w = wdTill ∨ w = wdMore ∨ w = wdPpl ∨ w = wdAgain := by
  unfold keyK
  by_cases h0 : w = wdAt
  · simp [h0]
  by_cases h1 : w = wdIn
  · simp [h1]
  by_cases h2 : w = wdAfter
  · simp [h2]
  by_cases h3 : w = wdTill
  · simp [h3]
  by_cases h4 : w = wdMore
  · simp [h4]
  by_cases h5 : w = wdPpl
  · simp [h5]
  by_cases h6 : w = wdAgain
  · simp [h6]
  simp [idxF, h0, h1, h2, h3, h4, h5, h6]
theorem isW_two (v w x : List UInt8) (r : List (List UInt8)) : isW v (w :: x :: r) = decide (w = v) := by
  have : (1 : Int) < (((w :: x :: r).length : Nat) : Int) := by simp only [List.length_cons]; omega
  rw [isW, decide_eq_true this, Bool.true_and]; rfl
theorem stp_no {w : List UInt8} {set : PSt → Int → PSt} {z : StR} (h : isW w z.2.2 = false) : stp w set z = z := if_neg (by rw [h]; simp)
theorem stIn_no {z : StR} (h1 : isW wdIn z.2.2 = false) (h2 : isW wdAfter z.2.2 = false) : stIn z = z := if_neg (by rw [h1, h2]; simp)
theorem stAgain_no {z : StR} (h : isW wdAgain z.2.2 = false) : stAgain z = z := if_neg (by rw [h]; simp)
/-- a step whose flag has fallen never ends well -/
theorem stp_ok {w : List UInt8} {set : PSt → Int → PSt} {z : StR} (h : z.2.1 = false) : (stp w set z).2.1 = false := by
  unfold stp; split
  · show (z.2.1 && _) = false; rw [h]; rfl
  · exact h
theorem stIn_ok {z : StR} (h : z.2.1 = false) : (stIn z).2.1 = false := by
  unfold stIn; split
  · show (z.2.1 && _) = false; rw [h]; rfl
  · exact h
theorem stAgain_ok {z : StR} (h : z.2.1 = false) : (stAgain z).2.1 = false := by
  unfold stAgain; split
  · show ((stp _ _ z).2.1 && _) = false; rw [stp_ok h]; rfl
  · exact h
theorem stEnd_ok {z : StR} (h : z.2.1 = false) : stEnd z = none := if_neg (by rw [h]; simp)
theorem stEnd_more {z : StR} (h : z.2.2 ≠ []) : stEnd z = none := if_neg (by simp [h])
/-- an odd tail is never read to its end -/
theorem odd_step {w : List UInt8} {set : PSt → Int → PSt} {z : StR} (h : z.2.2.length % 2 = 1) : (stp w set z).2.2.length % 2 = 1 := by
  unfold stp; split
  · rename_i h1
    show (z.2.2.drop 2).length % 2 = 1
    rw [List.length_drop]
    have : 2 ≤ z.2.2.length := by
      simp only [isW, Bool.and_eq_true, decide_eq_true_eq] at h1; omega
    omega
  · exact h
theorem odd_in {z : StR} (h : z.2.2.length % 2 = 1) : (stIn z).2.2.length % 2 = 1 := by
  unfold stIn; split
  · rename_i h1
    show (z.2.2.drop 2).length % 2 = 1
    rw [List.length_drop]
    have : 2 ≤ z.2.2.length := by
      simp only [isW, Bool.or_eq_true, Bool.and_eq_true, decide_eq_true_eq] at h1; omega
    omega
  · exact h
theorem odd_again {z : StR} (h : z.2.2.length % 2 = 1) : (stAgain z).2.2.length % 2 = 1 := by
  unfold stAgain; split
  · exact odd_step h
  · exact h
theorem odd_end {z : StR} (h : z.2.2.length % 2 = 1) : stEnd z = none := stEnd_more fun e => by rw [e] at h; simp at h
/-! ### Step after step is the loop -/
theorem loop_nil {last : Int} {b : Bool} {s : PSt} (h : 0 ≤ last) : loopK [] last b s = some s := if_neg (by omega)
def tAgain (z : StR) : Option PSt := stEnd (stAgain z)
def tPpl (z : StR) : Option PSt := tAgain (stp wdPpl setPpl z)
def tMore (z : StR) : Option PSt := tPpl (stp wdMore setMore z)
def tTill (z : StR) : Option PSt := tMore (stp wdTill setTill z)
def tIn (z : StR) : Option PSt := tTill (stIn z)
theorem tAgain_ok {z : StR} (h : z.2.1 = false) : tAgain z = none := stEnd_ok (stAgain_ok h)
theorem tPpl_ok {z : StR} (h : z.2.1 = false) : tPpl z = none := tAgain_ok (stp_ok h)
theorem tMore_ok {z : StR} (h : z.2.1 = false) : tMore z = none := tPpl_ok (stp_ok h)
theorem tTill_ok {z : StR} (h : z.2.1 = false) : tTill z = none := tMore_ok (stp_ok h)
theorem tIn_ok {z : StR} (h : z.2.1 = false) : tIn z = none := tTill_ok (stIn_ok h)
theorem end_two {s : PSt} {b : Bool} {w x : List UInt8} {r : List (List UInt8)} : stEnd (s, b, w :: x :: r) = none := stEnd_more (List.cons_ne_nil _ _)
theorem end_nil {s : PSt} : stEnd (s, true, []) = some s := if_pos rfl
theorem loop_bad {w x : List UInt8} {r : List (List UInt8)} {last : Int} {f : Bool} {s : PSt} (h : badK (keyK w) last f = true) : loopK (w :: x :: r) last f s = none := by rw [loopK, if_pos h]
theorem loop_in {w x : List UInt8} {r : List (List UInt8)} {last : Int} {f : Bool} {s : PSt} (h : badK (keyK w) last f = false) (hk : keyK w = 1 ∨ keyK w = 2) :
    loopK (w :: x :: r) last f s = if x = [] then none else loopK r (keyK w) false { s with inn := x, nx := decide (keyK w = 2) } := by rw [loopK, if_neg (by rw [h]; simp), if_pos hk]
theorem loop_num {w x : List UInt8} {r : List (List UInt8)} {last : Int} {f : Bool} {s : PSt} (h : badK (keyK w) last f = false) (hk : ¬ (keyK w = 1 ∨ keyK w = 2)) :
    loopK (w :: x :: r) last f s = if (!plainOk x 10 || (decide (keyK w = 6) && decide (sNum x = 0))) = true then none else loopK r (keyK w) false (setK (keyK w) s (sNum x)) := by rw [loopK, if_neg (by rw [h]; simp), if_neg hk]
theorem stp_hit {w x : List UInt8} {r : List (List UInt8)} {set : PSt → Int → PSt} {s : PSt} {b : Bool} : stp w set (s, b, w :: x :: r) = (set s (sNum x), b && plainOk x 10, r) := by
  rw [stp, if_pos (by rw [isW_two]; simp)]; rfl
theorem stp_miss {v w x : List UInt8} {r : List (List UInt8)} {set : PSt → Int → PSt} {s : PSt} {b : Bool} (h : w ≠ v) : stp v set (s, b, w :: x :: r) = (s, b, w :: x :: r) := stp_no (by rw [isW_two]; simp [h])
theorem tAgain_skip {w x : List UInt8} {r : List (List UInt8)} {s : PSt} {b : Bool} (h : w ≠ wdAgain) : tAgain (s, b, w :: x :: r) = none := by
  rw [tAgain, stAgain_no (by rw [isW_two]; simp [h])]; exact end_two
theorem tPpl_skip {w x : List UInt8} {r : List (List UInt8)} {s : PSt} {b : Bool} (h : w ≠ wdPpl) : tPpl (s, b, w :: x :: r) = tAgain (s, b, w :: x :: r) := by rw [tPpl, stp_miss h]
theorem tMore_skip {w x : List UInt8} {r : List (List UInt8)} {s : PSt} {b : Bool} (h : w ≠ wdMore) : tMore (s, b, w :: x :: r) = tPpl (s, b, w :: x :: r) := by rw [tMore, stp_miss h]
theorem tTill_skip {w x : List UInt8} {r : List (List UInt8)} {s : PSt} {b : Bool} (h : w ≠ wdTill) : tTill (s, b, w :: x :: r) = tMore (s, b, w :: x :: r) := by rw [tTill, stp_miss h]
theorem tIn_skip {w x : List UInt8} {r : List (List UInt8)} {s : PSt} {b : Bool} (h1 : w ≠ wdIn) (h2 : w ≠ wdAfter) : tIn (s, b, w :: x :: r) = tTill (s, b, w :: x :: r) := by
  rw [tIn, stIn_no (by rw [isW_two]; simp [h1]) (by rw [isW_two]; simp [h2])]
theorem tAgain_hit {x : List UInt8} {r : List (List UInt8)} {s : PSt} : tAgain (s, true, wdAgain :: x :: r) = if (!plainOk x 10 || (true && decide (sNum x = 0))) = true then none else stEnd (setAgain s (sNum x), true, r) := by
  rw [tAgain, stAgain, if_pos (by rw [isW_two]; rfl), stp_hit]
  cases hp : plainOk x 10 with
  | false => exact stEnd_ok rfl
  | true =>
    by_cases h0 : sNum x = 0
    · rw [decide_eq_true h0]
      exact stEnd_ok (by show (true && true && !decide (sNum x = 0)) = false; rw [decide_eq_true h0]; rfl)
    · rw [decide_eq_false h0]
      show stEnd (setAgain s (sNum x), (true && true && !decide (sNum x = 0)), r) = stEnd (setAgain s (sNum x), true, r)
      rw [decide_eq_false h0]; rfl
theorem stE_if {z : PSt} {x : List UInt8} {r : List (List UInt8)} {T : StR → Option PSt} (hT : ∀ {y : StR}, y.2.1 = false → T y = none) : T (z, true && plainOk x 10, r) = if (!plainOk x 10 || (false && decide (sNum x = 0))) = true then none else T (z, true, r) := by
  cases hp : plainOk x 10 with
  | false => exact hT rfl
  | true => rfl
theorem tPpl_hit {x : List UInt8} {r : List (List UInt8)} {s : PSt} : tPpl (s, true, wdPpl :: x :: r) = if (!plainOk x 10 || (false && decide (sNum x = 0))) = true then none else tAgain (setPpl s (sNum x), true, r) := by
  rw [tPpl, stp_hit]; exact stE_if tAgain_ok
theorem tMore_hit {x : List UInt8} {r : List (List UInt8)} {s : PSt} : tMore (s, true, wdMore :: x :: r) = if (!plainOk x 10 || (false && decide (sNum x = 0))) = true then none else tPpl (setMore s (sNum x), true, r) := by
  rw [tMore, stp_hit]; exact stE_if tPpl_ok
theorem tTill_hit {x : List UInt8} {r : List (List UInt8)} {s : PSt} : tTill (s, true, wdTill :: x :: r) = if (!plainOk x 10 || (false && decide (sNum x = 0))) = true then none else tMore (setTill s (sNum x), true, r) := by
  rw [tTill, stp_hit]; exact stE_if tMore_ok
theorem tIn_hit {w x : List UInt8} {r : List (List UInt8)} {s : PSt} (hw : w = wdIn ∨ w = wdAfter) : tIn (s, true, w :: x :: r) = if x = [] then none else tTill ({ s with inn := x, nx := decide (w = wdAfter) }, true, r) := by
  have e : stIn (s, true, w :: x :: r) = ({ s with nx := decide (w = wdAfter), inn := x }, true && !decide (x = []), r) := by
    rw [stIn, if_pos (by rw [isW_two, isW_two]; rcases hw with rfl | rfl <;> decide)]
    show (({ s with nx := isW wdAfter (w :: x :: r), inn := x } : PSt), _, _) = _
    rw [isW_two]; rfl
  rw [tIn, e]
  by_cases hx : x = []
  · rw [if_pos hx, decide_eq_true hx]; exact tTill_ok rfl
  · rw [if_neg hx, decide_eq_false hx]; rfl
theorem A6 : ∀ (ws : List (List UInt8)) (s : PSt), ws.length % 2 = 0 → loopK ws 6 false s = stEnd (s, true, ws)
  | [], s, _ => (loop_nil (by omega)).trans end_nil.symm
  | [_], s, h => by simp at h
  | w :: x :: r, s, _ => by
    rw [end_two]
    rcases key_cases w with ⟨hk, n0, n1, n2, n3, n4, n5, n6⟩ | rfl | rfl | rfl | rfl | rfl | rfl | rfl
    · exact loop_bad (by rw [hk]; rfl)
    all_goals exact loop_bad (by decide)
theorem A5 : ∀ (ws : List (List UInt8)) (s : PSt), ws.length % 2 = 0 → loopK ws 5 false s = tAgain (s, true, ws)
  | [], s, _ => (loop_nil (by omega)).trans end_nil.symm
  | [_], s, h => by simp at h
  | w :: x :: r, s, h => by
    have h' : r.length % 2 = 0 := by simp only [List.length_cons] at h; omega
    rcases key_cases w with ⟨hk, n0, n1, n2, n3, n4, n5, n6⟩ | rfl | rfl | rfl | rfl | rfl | rfl | rfl
    · rw [loop_bad (by rw [hk]; rfl), tAgain_skip n6]
    iterate 6 rw [loop_bad (by decide), tAgain_skip (by decide)]
    rw [loop_num (by decide) (by decide), tAgain_hit, ← A6 r _ h']; rfl
theorem A4 : ∀ (ws : List (List UInt8)) (s : PSt), ws.length % 2 = 0 → loopK ws 4 false s = tPpl (s, true, ws)
  | [], s, _ => (loop_nil (by omega)).trans end_nil.symm
  | [_], s, h => by simp at h
  | w :: x :: r, s, h => by
    have h' : r.length % 2 = 0 := by simp only [List.length_cons] at h; omega
    rcases key_cases w with ⟨hk, n0, n1, n2, n3, n4, n5, n6⟩ | rfl | rfl | rfl | rfl | rfl | rfl | rfl
    · rw [loop_bad (by rw [hk]; rfl), tPpl_skip n5, tAgain_skip n6]
    iterate 5 rw [loop_bad (by decide), tPpl_skip (by decide), tAgain_skip (by decide)]
    · rw [loop_num (by decide) (by decide), tPpl_hit, ← A5 r _ h']; rfl
    · rw [loop_num (by decide) (by decide), tPpl_skip (by decide), tAgain_hit, ← A6 r _ h']; rfl
theorem A3 : ∀ (ws : List (List UInt8)) (s : PSt), ws.length % 2 = 0 → loopK ws 3 false s = tMore (s, true, ws)
  | [], s, _ => (loop_nil (by omega)).trans end_nil.symm
  | [_], s, h => by simp at h
  | w :: x :: r, s, h => by
    have h' : r.length % 2 = 0 := by simp only [List.length_cons] at h; omega
    rcases key_cases w with ⟨hk, n0, n1, n2, n3, n4, n5, n6⟩ | rfl | rfl | rfl | rfl | rfl | rfl | rfl
    · rw [loop_bad (by rw [hk]; rfl), tMore_skip n4, tPpl_skip n5, tAgain_skip n6]
    iterate 4 rw [loop_bad (by decide), tMore_skip (by decide), tPpl_skip (by decide), tAgain_skip (by decide)]
    · rw [loop_num (by decide) (by decide), tMore_hit, ← A4 r _ h']; rfl
    · rw [loop_num (by decide) (by decide), tMore_skip (by decide), tPpl_hit, ← A5 r _ h']; rfl
    · rw [loop_num (by decide) (by decide), tMore_skip (by decide), tPpl_skip (by decide), tAgain_hit, ← A6 r _ h']; rfl
theorem A12 (last : Int) (hl : last = 1 ∨ last = 2) : ∀ (ws : List (List UInt8)) (s : PSt), ws.length % 2 = 0 → loopK ws last false s = tTill (s, true, ws)
  | [], s, _ => (loop_nil (by omega)).trans end_nil.symm
  | [_], s, h => by simp at h
  | w :: x :: r, s, h => by
    have h' : r.length % 2 = 0 := by simp only [List.length_cons] at h; omega
    rcases key_cases w with ⟨hk, n0, n1, n2, n3, n4, n5, n6⟩ | rfl | rfl | rfl | rfl | rfl | rfl | rfl
    · rw [loop_bad (by rw [hk]; rfl), tTill_skip n3, tMore_skip n4, tPpl_skip n5, tAgain_skip n6]
    iterate 3 rw [loop_bad (by rcases hl with rfl | rfl <;> decide), tTill_skip (by decide), tMore_skip (by decide), tPpl_skip (by decide), tAgain_skip (by decide)]
    · rw [loop_num (by rcases hl with rfl | rfl <;> decide) (by decide), tTill_hit, ← A3 r _ h']; rfl
    · rw [loop_num (by rcases hl with rfl | rfl <;> decide) (by decide), tTill_skip (by decide), tMore_hit, ← A4 r _ h']; rfl
    · rw [loop_num (by rcases hl with rfl | rfl <;> decide) (by decide), tTill_skip (by decide), tMore_skip (by decide), tPpl_hit, ← A5 r _ h']; rfl
    · rw [loop_num (by rcases hl with rfl | rfl <;> decide) (by decide), tTill_skip (by decide), tMore_skip (by decide), tPpl_skip (by decide), tAgain_hit, ← A6 r _ h']; rfl
theorem A0 : ∀ (ws : List (List UInt8)) (s : PSt), ws.length % 2 = 0 → loopK ws 0 false s = tIn (s, true, ws)
  | [], s, _ => (loop_nil (by omega)).trans end_nil.symm
  | [_], s, h => by simp at h
  | w :: x :: r, s, h => by
    have h' : r.length % 2 = 0 := by simp only [List.length_cons] at h; omega
    rcases key_cases w with ⟨hk, n0, n1, n2, n3, n4, n5, n6⟩ | rfl | rfl | rfl | rfl | rfl | rfl | rfl
    · rw [loop_bad (by rw [hk]; rfl), tIn_skip n1 n2, tTill_skip n3, tMore_skip n4, tPpl_skip n5, tAgain_skip n6]
    · rw [loop_bad (by decide), tIn_skip (by decide) (by decide), tTill_skip (by decide), tMore_skip (by decide), tPpl_skip (by decide), tAgain_skip (by decide)]
    · rw [loop_in (by decide) (by decide), tIn_hit (.inl rfl), ← A12 1 (.inl rfl) r _ h']; rfl
    · rw [loop_in (by decide) (by decide), tIn_hit (.inr rfl), ← A12 2 (.inr rfl) r _ h']; rfl
    · rw [loop_num (by decide) (by decide), tIn_skip (by decide) (by decide), tTill_hit, ← A3 r _ h']; rfl
    · rw [loop_num (by decide) (by decide), tIn_skip (by decide) (by decide), tTill_skip (by decide), tMore_hit, ← A4 r _ h']; rfl
    · rw [loop_num (by decide) (by decide), tIn_skip (by decide) (by decide), tTill_skip (by decide), tMore_skip (by decide), tPpl_hit, ← A5 r _ h']; rfl
    · rw [loop_num (by decide) (by decide), tIn_skip (by decide) (by decide), tTill_skip (by decide), tMore_skip (by decide), tPpl_skip (by decide), tAgain_hit, ← A6 r _ h']; rfl
theorem at_miss {w x : List UInt8} {r : List (List UInt8)} {s : PSt} {b : Bool} (h : w ≠ wdAt) : tIn (stAt (s, b, w :: x :: r)) = none := by
  refine tIn_ok ?_
  show (isW wdAt (w :: x :: r) && _) = false
  rw [isW_two, decide_eq_false h, Bool.false_and]
theorem AS : ∀ (ws : List (List UInt8)) (s : PSt), ws.length % 2 = 0 → loopK ws (-1) true s = tIn (stAt (s, true, ws))
  | [], s, _ => (tIn_ok rfl).symm
  | [_], s, h => by simp at h
  | w :: x :: r, s, h => by
    have h' : r.length % 2 = 0 := by simp only [List.length_cons] at h; omega
    rcases key_cases w with ⟨hk, n0, n1, n2, n3, n4, n5, n6⟩ | rfl | rfl | rfl | rfl | rfl | rfl | rfl
    · rw [loop_bad (by rw [hk]; rfl), at_miss n0]
    · have e : stAt (s, true, wdAt :: x :: r) = (setAt s (sNum x), true && plainOk x 10, r) := by
        rw [stAt, stp_hit]
        show (_, (isW wdAt (wdAt :: x :: r) && _), _) = _
        rw [isW_two]; rfl
      rw [loop_num (by decide) (by decide), e, stE_if tIn_ok, ← A0 r _ h']; rfl
    all_goals rw [loop_bad (by decide), at_miss (by decide)]
/-- both read the same -/
theorem read_same (W : List (List UInt8)) (hW : W ≠ []) : readR W = readW W := by
  unfold readR readW
  show _ = tIn (stAt (stB W))
  obtain ⟨a, l, rfl⟩ : ∃ a l, W = a :: l := by cases W with
    | nil => exact absurd rfl hW
    | cons a l => exact ⟨a, l, rfl⟩
  show (if (decide (idxF a [[], wdOpen, wdRes, wdIgn] 0 < 1) || decide ((((a :: l).length : Nat) : Int) % 2 = 0)) = true then none else loopK l (-1) true (st0 (idxF a [[], wdOpen, wdRes, wdIgn] 0))) = tIn (stAt (st0 (kindS a), decide (0 < kindS a), l))
  by_cases ho : l.length % 2 = 0
  · have e2 : decide ((((a :: l).length : Nat) : Int) % 2 = 0) = false := decide_eq_false (by rw [List.length_cons]; omega)
    rcases kind_idx a with ⟨h1, h2⟩ | ⟨h1, h2⟩
    · rw [if_pos (by rw [decide_eq_true h2]; rfl)]
      refine (tIn_ok ?_).symm
      rw [h1]
      show (isW wdAt l && (stp wdAt setAt (st0 0, false, l)).2.1) = false
      rw [stp_ok rfl, Bool.and_false]
    · rw [h2, e2, decide_eq_false (show ¬ kindS a < 1 by omega), decide_eq_true (show 0 < kindS a by omega)]
      exact AS l _ ho
  · have e2 : decide ((((a :: l).length : Nat) : Int) % 2 = 0) = true := decide_eq_true (by rw [List.length_cons]; omega)
    rw [e2, Bool.or_true, if_pos rfl]
    obtain ⟨z, hz⟩ : ∃ z : StR, z = (st0 (kindS a), decide (0 < kindS a), l) := ⟨_, rfl⟩
    rw [← hz]
    have hl : z.2.2.length % 2 = 1 := by rw [hz]; show l.length % 2 = 1; omega
    have h0 : (stAt z).2.2.length % 2 = 1 := odd_step (w := wdAt) (set := setAt) hl
    obtain ⟨y, hy⟩ : ∃ y, y = stAt z := ⟨_, rfl⟩
    rw [← hy] at h0 ⊢
    unfold tIn tTill tMore tPpl tAgain
    exact (odd_end (odd_again (odd_step (odd_step (odd_step (odd_in h0)))))).symm
end Go.Proofs.YtkkngcdikbhkjaaDoor
