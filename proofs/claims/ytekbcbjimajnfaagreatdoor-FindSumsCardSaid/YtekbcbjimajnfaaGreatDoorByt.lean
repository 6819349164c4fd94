/- A string's bytes as a slice that is only read: the conversion, and its elements. No condition. -/
import Derived.Test.YtekbcbjimajnfaaGreatDoorMany
import Derived.Lib.ConvBytes
namespace Go.Eng
set_option linter.unusedSimpArgs false
set_option linter.unusedVariables false
open Go.RowKit
section
variable {P : Program} {w0 : World} {n : Nat} {ops : Array Oper} {l : List Oper} {F : FL} {L : HL} {Q : Exit → Act → World → Prop} {o : Oper} {g : Bool} {v : Value} {x y z : Operand} {t t' : TypeId} {gx gy : Bool}
theorem Mem.gainB {w w' : World} (h : Mem w0 L w) (hb : Below w.heap.size w w') (i : Nat) (φ : Obj → Prop) {ob : Obj} (hg : w'.heap[w.heap.size]? = some ob) (ho : φ ob) : Mem w0 ((i, .blk w.heap.size φ) :: L) w' := by
  have h' : Mem w0 L w' := h.call hb
  refine ⟨h'.below, ?_, ?_⟩
  · intro j p hp
    rcases HL.get_cons hp with ⟨rfl, rfl⟩ | ⟨_, hq⟩
    · exact ⟨h.size, ob, hg, ho⟩
    · exact h'.sat j p hq
  · intro j k p q hjk hp hq b hf hf'
    rcases HL.get_cons hp with ⟨rfl, rfl⟩ | ⟨_, hp'⟩
    · rcases HL.get_cons hq with ⟨rfl, rfl⟩ | ⟨_, hq'⟩
      · exact hjk rfl
      · change w.heap.size = b at hf
        have := (It.lt (h.sat k q hq') b hf').2
        omega
    · rcases HL.get_cons hq with ⟨rfl, rfl⟩ | ⟨_, hq'⟩
      · change w.heap.size = b at hf'
        have := (It.lt (h.sat j p hp') b hf).2
        omega
      · exact h.apart j k p q hjk hp' hq' b hf hf'
end
end Go.Eng
