/- A box that is no more written becomes a row of one element, so that it can be kept with the many; what is read of it then. No condition. -/
import Derived.Test.YtgbldojgbpgjbaaGreatDoorMany
namespace Go.Eng
open Go.RowKit
set_option linter.unusedVariables false
section
variable {P : Program} {w0 w : World} {n : Nat} {ops : Array Oper} {l : List Oper} {c : Code} {F : FL} {L : HL} {Q : Exit → Act → World → Prop} {i b : Nat} {cs : List Value} {t : TypeId}
abbrev boxRow (t : TypeId) (b : Nat) (cs : List Value) : Row := ⟨t, cs.length, .slice (some ⟨b, 0, none⟩) 1 1, 1, cs⟩
theorem Mem.boxRow (h : Mem w0 L w) (hi : L.get i = some (.blk b (IsBox cs t))) : Mem w0 ((i, .own t cs.length (.slice (some ⟨b, 0, none⟩) 1 1) 1 cs) :: L) w := by
  obtain ⟨hb, ob, h1, h2⟩ := h.sat i _ hi
  unfold IsBox at h2
  subst h2
  refine h.turn (p' := .own t cs.length (.slice (some ⟨b, 0, none⟩) 1 1) 1 cs) hi ⟨rfl, rfl, rfl, Nat.le_refl _, fun _ _ _ => rfl⟩ ?_ (.inl rfl)
  exact ⟨by rw [Nat.one_mul], .inr ⟨b, 1, cs.toArray, rfl, hb, h1, Nat.le_refl _, by unfold maxLen; omega, by simp, by rw [Nat.one_mul]; simp⟩⟩
/-- a box among the many, as cells -/
def CellsIn (b : Nat) (cs : List Value) (w : World) : Prop := (∀ j u, cs[j]? = some u → w.cell? ⟨b, j, none⟩ = some u) ∧ b < w.heap.size
theorem row_cells {B : Nat} (h : w.ownsRow B t cs.length (.slice (some ⟨b, 0, none⟩) 1 1) 1 cs) : CellsIn b cs w := by
  rcases h.2 with ⟨_, h0⟩ | ⟨g, cap, cur, hv, _, hg, _⟩
  · cases h0
  · have e : g = b := by injection hv with h1; injection h1 with h2; injection h2 with h3; exact h3.symm
    subst e
    refine ⟨fun j u hu => ?_, (Array.getElem?_eq_some_iff.1 hg).1⟩
    have := h.cells (g := g) rfl j u hu
    rwa [show (⟨g, 0, none⟩ : Addr).add j = ⟨g, j, none⟩ from by unfold Addr.add; split <;> simp_all] at this
end
end Go.Eng
