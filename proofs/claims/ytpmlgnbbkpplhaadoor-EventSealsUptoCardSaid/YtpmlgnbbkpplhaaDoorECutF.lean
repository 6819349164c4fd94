/- stack.Cut of right frames. Conditions: those of each theorem. -/
import Derived.Test.YtpmlgnbbkpplhaaDoorECopy
namespace Go.Proofs.YtpmlgnbbkpplhaaDoor
set_option linter.unusedSimpArgs false
set_option linter.unusedVariables false
set_option maxRecDepth 20000
open Go.RowKit Go.Eng
/-- a part of a slice -/
def subSl {α : Type} (size : Nat) (s : Sl α) (lo hi : Nat) : Sl α := ⟨if s.c = lo then s.A else s.A.map (·.add (lo * size)), hi - lo, s.c - lo, (s.l.drop lo).take (hi - lo)⟩
theorem subSl_ok {α : Type} {enc : α → List Value} {size lo hi : Nat} {w : World} {s : Sl α} (h : s.Ok enc size w) (hs : ∀ x, (enc x).length = size) (h1 : lo ≤ hi) (h2 : hi ≤ s.q) : (subSl size s lo hi).Ok enc size w :=
  ⟨h.t.cut hs h1 h2 h.cap, by show hi - lo ≤ s.c - lo; have := h.cap; omega⟩
def cutF (l : List Frm) (n : Nat) : List Frm := if l.length ≤ n then l else l.take ((n + 1) / 2) ++ l.drop (l.length - n / 2)
theorem cutF_len (l : List Frm) (n : Nat) : (cutF l n).length = min l.length n := by
  unfold cutF
  split
  · omega
  · rw [List.length_append, List.length_take, List.length_drop]; omega
end Go.Proofs.YtpmlgnbbkpplhaaDoor
