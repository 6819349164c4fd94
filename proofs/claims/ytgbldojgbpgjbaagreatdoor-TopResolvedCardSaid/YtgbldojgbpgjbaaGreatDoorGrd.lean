/- A guard that is known to hold may be left out: for operations that write. No condition. -/
import Derived.Test.YtgbldojgbpgjbaaGreatDoorPerm
import Derived.Test.YtgbldojgbpgjbaaGreatDoorOwn
namespace Go.Eng
open Go.RowKit
section
variable {P : Program} {w0 : World} {n : Nat} {ops : Array Oper} {l : List Oper} {F : FL} {L : HL} {Q : Exit → Act → World → Prop} {o : Oper}
theorem S_unguard {j s : Nat} {want gs b : Bool} {oj : Oper} (hg : o.guard = some (j, want)) (hj : ops[j]? = some oj) (hs : oj.dst = some s) (hv : F.get s = some (gs, .bool b)) (ht : (gs && (b == want)) = true)
    (h : S P w0 n ops ({ o with guard := none } :: l) F L Q) : S P w0 n ops (o :: l) F L Q := by
  intro a w hF hM
  have h1 := h a w hF hM
  have h2 := G_at (ops := ops) (F := F) (o := o) hg hj hs hv n a hF
  rw [ht] at h2
  unfold wpList at h1 ⊢
  rw [if_pos h2]
  rw [if_pos (by simp [Region.wanted])] at h1
  exact h1
/-- a row of ours read as a slice of typed elements -/
theorem owned_ok {α : Type} {enc : α → List Value} {size : Nat} {e : TypeId} {w : World} {i : Nat} {A : Option Addr} {c q : Nat} {l : List α} (hM : Mem w0 L w) (hq : l.length = q) (hL : L.get i = some (.own e size (.slice A q c) q (l.flatMap enc))) : Sl.Ok enc size w ⟨A, q, c, l⟩ := by
  refine ⟨⟨own_reads hM hL, hq⟩, ?_⟩
  have h : w.ownsRow w0.heap.size e size (.slice A q c) q (l.flatMap enc) := hM.sat i _ hL
  rcases h.2 with ⟨hv, h0⟩ | ⟨g, cap, cur, hv, _, _, hnc, _⟩
  · show q ≤ c
    omega
  · have : c = cap := by injection hv
    show q ≤ c
    omega
theorem owned_T {α : Type} {enc : α → List Value} {size : Nat} {e : TypeId} {w : World} {i : Nat} {A : Option Addr} {c q : Nat} {l : List α} (hM : Mem w0 L w) (hq : l.length = q) (hL : L.get i = some (.own e size (.slice A q c) q (l.flatMap enc))) : SlT enc size w A q l := (owned_ok hM hq hL).t
end
end Go.Eng
