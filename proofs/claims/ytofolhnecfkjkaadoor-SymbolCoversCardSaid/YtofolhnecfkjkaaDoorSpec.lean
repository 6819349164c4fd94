/- The faults of files, functions, rows, calls, tables and modules, in plain lists. No program in sight. -/
import Derived.Test.YtofolhnecfkjkaaDoorTab
namespace Go.Proofs.YtofolhnecfkjkaaDoor
set_option linter.unusedSimpArgs false
set_option linter.unusedVariables false
set_option maxRecDepth 20000
open Go.RowKit Go.Eng

def outB (n lo hi : Int) : Bool := decide (n < lo) || decide (hi < n)
def spanBad (size fr to : Int) : Bool := outB fr 0 (size - 1) || outB to (fr + 1) size
def filesNo : List (List UInt8) → List (List UInt8) → Int
  | _, [] => 0
  | seen, s :: r => if s = [] then 1 else if wordsNo [] [102] s ≠ 0 then wordsNo [] [102] s else if s ∈ seen then 6 else filesNo (seen ++ [s]) r
def funcsNo (size : Int) : List SFunc → Int → Int
  | [], _ => 0
  | f :: r, last => if nameNo f.name ≠ 0 then nameNo f.name else if spanBad size f.fr f.to = true then 2 else if f.fr < last then 5 else funcsNo size r f.to
def rowBad (size nf : Int) (r : SRow) : Bool := outB r.pos 0 (size - 1) || outB r.fi (-1) (nf - 1) || outB r.ln 0 9999999
def rowsNo (size nf : Int) : List SRow → Int → Int
  | [], _ => 0
  | r :: rest, last => if rowBad size nf r = true then 2 else if (decide (r.fi = -1) != decide (r.ln = 0)) = true then 1 else if r.pos ≤ last then 5 else rowsNo size nf rest r.pos
def SFunc.holds (c : SCall) (f : SFunc) : Bool := decide (f.fr ≤ c.fr) && decide (c.to ≤ f.to)
def apartB (b c : SCall) : Bool := decide (b.to ≤ c.fr) || decide (c.to ≤ b.fr)
def cutsB (b c : SCall) : Bool := decide (c.fr < b.fr) || decide (b.to < c.to)
def nestNo (c : SCall) : List SCall → Int → Int
  | [], deep => if 10 ≤ deep then 13 else 0
  | b :: r, deep => if apartB b c = true then nestNo c r deep else if cutsB b c = true then 11 else nestNo c r (deep + 1)
def callNo (fu : List SFunc) (before : List SCall) (c : SCall) : Int := if (!fu.any (SFunc.holds c)) = true then 11 else nestNo c before 0
def callBad (size nf : Int) (c : SCall) : Bool := spanBad size c.fr c.to || outB c.fi 0 (nf - 1) || outB c.ln 1 9999999
def callLate (b c : SCall) : Bool := decide (c.fr < b.fr) || (decide (c.fr = b.fr) && decide (b.to < c.to))
def callsNo (size nf : Int) (fu : List SFunc) : List SCall → List SCall → SCall → Int
  | _, [], _ => 0
  | before, c :: r, b => if nameNo c.name ≠ 0 then nameNo c.name else if callBad size nf c = true then 2 else if callLate b c = true then 5
    else if callNo fu before c ≠ 0 then callNo fu before c else callsNo size nf fu (before ++ [c]) r c
def call0 : SCall := ⟨[], -1, -1, 0, 0⟩
def fst (a b : Int) : Int := if a ≠ 0 then a else b
def tabNo (t : Tab) : Int :=
  if (!idOk t.id) = true then 1 else if outB t.size 1 4294967296 = true then 2
  else fst (if (200 : Int) < t.fi.q then 4 else filesNo [] t.fi.l) (fst (if (1000 : Int) < t.fu.q then 4 else funcsNo t.size t.fu.l 0)
    (fst (if (5000 : Int) < t.ro.q then 4 else rowsNo t.size t.fi.q t.ro.l (-1)) (if (1000 : Int) < t.ca.q then 4 else callsNo t.size t.fi.q t.fu.l [] t.ca.l call0)))
def modsNo : List SMod → Int → Int
  | [], _ => 0
  | m :: r, last => if m.name = [] then 1 else if wordsNo m.name [102] [] ≠ 0 then wordsNo m.name [102] [] else if m.name.contains 33 = true then 9 else if (!idOk m.id) = true then 1
    else if (outB m.fr 0 281474976710655 || outB m.to (m.fr + 1) 281474976710656) = true then 2 else if m.fr < last then 5 else modsNo r m.to

/-! ### The reference looks at the calls before another way -/
def enclB (b c : SCall) : Bool := decide (b.fr ≤ c.fr) && decide (c.to ≤ b.to)
def overB (b c : SCall) : Bool := decide (b.fr < c.to) && decide (c.fr < b.to)
def refNo (c : SCall) : List SCall → Bool → Int → Int
  | [], within, deep => if within = false then 11 else if 10 ≤ deep then 13 else 0
  | b :: r, within, deep => if enclB b c = true then refNo c r within (deep + 1) else if overB b c = true then refNo c r false deep else refNo c r within deep
theorem refNo_no (c : SCall) : ∀ (l : List SCall) (deep : Int), refNo c l false deep = 11
  | [], _ => rfl
  | b :: r, deep => by
    unfold refNo
    split
    · exact refNo_no c r _
    · split <;> exact refNo_no c r _
theorem refNo_nest {c : SCall} (h : c.fr < c.to) : ∀ (l : List SCall) (deep : Int), refNo c l true deep = nestNo c l deep
  | [], _ => rfl
  | b :: r, deep => by
    unfold refNo nestNo
    simp only [enclB, overB, apartB, cutsB, Bool.and_eq_true, Bool.or_eq_true, decide_eq_true_eq]
    by_cases h1 : b.fr ≤ c.fr ∧ c.to ≤ b.to
    · rw [if_pos h1, if_neg (by omega), if_neg (by omega)]; exact refNo_nest h r _
    · rw [if_neg h1]
      by_cases h2 : b.fr < c.to ∧ c.fr < b.to
      · rw [if_pos h2, if_neg (by omega), if_pos (by omega)]; exact refNo_no c r _
      · rw [if_neg h2, if_pos (by omega)]; exact refNo_nest h r _
theorem refNo_call {c : SCall} (h : c.fr < c.to) (fu : List SFunc) (l : List SCall) : refNo c l (fu.any (SFunc.holds c)) 0 = callNo fu l c := by
  unfold callNo
  cases fu.any (SFunc.holds c)
  · rw [refNo_no]; rfl
  · rw [refNo_nest h]; rfl
theorem spanBad_ref {size fr to : Int} : (outB fr 0 (size - 1) || decide (to ≤ fr) || decide (size < to)) = spanBad size fr to := by
  rw [spanBad, outB, outB, Bool.eq_iff_iff]
  simp only [Bool.or_eq_true, decide_eq_true_eq]
  omega
theorem fst_a {a b c : Int} (h : a = c) (hc : c ≠ 0) : fst a b = c := by rw [fst, h, if_pos hc]
theorem fst_b {a b c : Int} (h : a = 0) (hb : b = c) : fst a b = c := by rw [fst, h, hb]; rfl

theorem frmNo_file (s : List UInt8) : frmNo ⟨[], [102], s, 0, -1, false⟩ = wordsNo [] [102] s := by
  unfold frmNo
  by_cases h : wordsNo [] [102] s = 0 <;> simp [h]
theorem frmNo_mod (s : List UInt8) : frmNo ⟨s, [102], [], 0, -1, false⟩ = wordsNo s [102] [] := by
  unfold frmNo
  by_cases h : wordsNo s [102] [] = 0 <;> simp [h]
/-! ### A step of each list -/
theorem if_f' {α : Type} {c : Prop} [Decidable c] {a b x : α} (h : ¬ c) (hb : b = x) : (if c then a else b) = x := by rw [if_neg h, hb]
end Go.Proofs.YtofolhnecfkjkaaDoor
