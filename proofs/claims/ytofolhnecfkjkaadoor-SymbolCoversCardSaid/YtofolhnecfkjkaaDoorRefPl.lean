/- The reference's places of an offset are those of symbol.at. No program in sight. -/
import Derived.Test.YtofolhnecfkjkaaDoorAtAll
namespace Go.Proofs.YtofolhnecfkjkaaDoor
set_option linter.unusedSimpArgs false
set_option linter.unusedVariables false
set_option maxRecDepth 20000
open Go.RowKit Go.Eng

/-- the reference goes the calls in order: the head is the innermost so far -/
def refP (x : Int) (files : List (List UInt8)) : List SCall → SPlace → List SPlace → List SPlace
  | [], p, q => p :: q
  | c :: r, p, q => if c.has x = true then refP x files r ⟨c.name, p.fi, p.ln⟩ (⟨p.fn, files.getD c.fi.toNat [], c.ln⟩ :: q) else refP x files r p q
theorem goPlaces_app {x : Int} {files : List (List UInt8)} (c : SCall) : ∀ (l : List SCall) (file : List UInt8) (line : Int) (out : List SPlace), goPlaces x files (l ++ [c]) file line out =
    (fun p : List SPlace × List UInt8 × Int => if c.has x = true then (p.1 ++ [⟨c.name, p.2.1, p.2.2⟩], files.getD c.fi.toNat [], c.ln) else p) (goPlaces x files l file line out)
  | [], file, line, out => by simp only [List.nil_append, goPlaces]
  | a :: r, file, line, out => by
    simp only [List.cons_append, goPlaces]
    split
    · exact goPlaces_app c r _ _ _
    · exact goPlaces_app c r _ _ _
theorem refP_eq {x : Int} {files : List (List UInt8)} : ∀ (cs : List SCall) (p : SPlace) (q : List SPlace),
    refP x files cs p q = (goPlaces x files cs.reverse p.fi p.ln []).1 ++ ⟨p.fn, (goPlaces x files cs.reverse p.fi p.ln []).2.1, (goPlaces x files cs.reverse p.fi p.ln []).2.2⟩ :: q
  | [], p, q => rfl
  | c :: r, p, q => by
    simp only [refP, List.reverse_cons, goPlaces_app]
    cases hc : c.has x with
    | true => simp only [if_true]; rw [refP_eq r]; simp
    | false => simp only [Bool.false_eq_true, if_false]; rw [refP_eq r]
theorem refP_atOut {t : Tab} {x : Int} {n : Nat} (hn : findI (SFunc.has x) t.fu.l 0 = n) :
    refP x t.fi.l t.ca.l ⟨(t.fu.l.getD n ⟨[], 0, 0⟩).name, lineFile t.fi.l (atRow x t.ro.l none), lineLine (atRow x t.ro.l none)⟩ [] = atOut t x := by
  rw [refP_eq]
  unfold atOut
  simp only [hn]
  rw [if_neg (by omega)]
  simp
end Go.Proofs.YtofolhnecfkjkaaDoor
