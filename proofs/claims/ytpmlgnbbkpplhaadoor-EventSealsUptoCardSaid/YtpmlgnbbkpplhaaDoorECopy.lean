/- event.Copy: the faults, their frames, the tags and the crumbs are new. Conditions: those of the theorem. -/
import Derived.Test.YtpmlgnbbkpplhaaDoorECut
import Derived.Test.YtpmlgnbbkpplhaaDoorCopy
namespace Go.Proofs.YtpmlgnbbkpplhaaDoor
set_option linter.unusedSimpArgs false
set_option linter.unusedVariables false
set_option maxRecDepth 20000
open Go.RowKit Go.Eng
/-- what a fault says -/
def Flt.cont (f : Flt) : List UInt8 × List UInt8 × List Frm := (f.k, f.t, f.fr.l)
structure CopyR where
  A : Option Addr
  c : Nat
  gs : List Flt
  rs : List Row
  B : Option Addr
  b : Nat
  D : Option Addr
  d : Nat
def CopyR.evt (z : CopyR) (e : Evt) : Evt := { e with fa := ⟨z.A, e.fa.q, z.c, z.gs⟩, ta := ⟨z.B, e.ta.q, z.b, e.ta.l⟩, cr := ⟨z.D, e.cr.q, z.d, e.cr.l⟩ }
def CopyR.L (z : CopyR) (e : Evt) : HL := [(8, .own 108 3 (.slice z.A e.fa.q z.c) e.fa.q (z.gs.flatMap Flt.enc)), (900, .many z.rs), (35, .own 144 2 (.slice z.B e.ta.q z.b) e.ta.q (e.ta.l.flatMap STag.enc)), (39, .own 146 3 (.slice z.D e.cr.q z.d) e.cr.q (e.cr.l.flatMap SCrumb.enc))]
theorem set_next {gs : List Flt} {l : List Flt} {x y : Flt} {i : Nat} (hg : gs.length = i) (h : l.drop i = x :: l.drop (i + 1)) : (gs ++ l.drop i).set i y = (gs ++ [y]) ++ l.drop (i + 1) := by
  subst hg
  rw [h]; simp
theorem at_next {gs : List Flt} {l : List Flt} {x : Flt} {i : Nat} (hg : gs.length = i) (h : l.drop i = x :: l.drop (i + 1)) : (gs ++ l.drop i)[i]? = some x := by
  subst hg
  rw [h]; simp
theorem take_at {α : Type} {l : List α} {i : Nat} {x : α} (h : l[i]? = some x) : l.take (i + 1) = l.take i ++ [x] := by
  rw [List.take_add_one, h]; rfl
end Go.Proofs.YtpmlgnbbkpplhaaDoor
