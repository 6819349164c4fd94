/- A row of the many taken back to be turned, and the many said anew. No condition. -/
import Derived.Test.YtgbldojgbpgjbaaGreatDoorMany
import Derived.Test.YtgbldojgbpgjbaaGreatDoorMapR
namespace Go.Eng
open Go.RowKit
set_option linter.unusedVariables false
section
variable {P : Program} {w0 w : World} {n : Nat} {ops : Array Oper} {l : List Oper} {c : Code} {F : FL} {L : HL} {Q : Exit → Act → World → Prop} {rs rs' : List Row} {m i : Nat} {t : TypeId} {s q : Nat} {v : Value} {xs : List Value}
theorem Mem.unbank (h : Mem w0 L w) (hm : L.get m = some (.many rs)) (hmi : m ≠ i) (hs : (v.ownBlock = none ∧ (It.own t s v q xs).sat w0.heap.size w) ∨ (⟨t, s, v, q, xs⟩ : Row) ∈ rs) (hr : ∀ r ∈ rs', r ∈ rs) (hd : ∀ r ∈ rs', ∀ b, v.ownBlock = some b → r.v.ownBlock ≠ some b) :
    Mem w0 ((i, .own t s v q xs) :: (m, .many rs') :: L) w := by
  have hon : ∀ b, v.ownBlock = some b → (It.many rs).on b := fun b hb => by
    rcases hs with ⟨h1, _⟩ | h1
    · rw [h1] at hb; cases hb
    · exact ⟨_, h1, hb⟩
  have hon' : ∀ b, (It.many rs').on b → (It.many rs).on b := fun b ⟨r, h1, h2⟩ => ⟨r, hr r h1, h2⟩
  have key : ∀ j p, HL.get ((i, It.own t s v q xs) :: (m, It.many rs') :: L) j = some p → (j = i ∧ p = .own t s v q xs) ∨ (j = m ∧ p = .many rs') ∨ (j ≠ m ∧ j ≠ i ∧ L.get j = some p) := fun j p hp => by
    rcases HL.get_cons hp with ⟨h1, h2⟩ | ⟨h1, h2⟩
    · exact .inl ⟨h1, h2⟩
    · rcases HL.get_cons h2 with ⟨h3, h4⟩ | ⟨h3, h4⟩
      · exact .inr (.inl ⟨h3, h4⟩)
      · exact .inr (.inr ⟨h3, h1, h4⟩)
  refine ⟨h.below, fun j p hp => ?_, fun j k p r hjk hp hq b hb hb' => ?_⟩
  · rcases key j p hp with ⟨_, rfl⟩ | ⟨_, rfl⟩ | ⟨_, _, h3⟩
    · rcases hs with ⟨_, h1⟩ | h1
      · exact h1
      · exact h.sat m _ hm _ h1
    · exact fun r h1 => h.sat m _ hm r (hr r h1)
    · exact h.sat j p h3
  · rcases key j p hp with ⟨rfl, rfl⟩ | ⟨rfl, rfl⟩ | ⟨a1, a2, a3⟩ <;> rcases key k r hq with ⟨rfl, rfl⟩ | ⟨rfl, rfl⟩ | ⟨b1, b2, b3⟩
    · exact hjk rfl
    · obtain ⟨r, h1, h2⟩ := hb'; exact hd r h1 b hb h2
    · exact h.apart m k _ _ (Ne.symm b1) hm b3 b (hon b hb) hb'
    · obtain ⟨r, h1, h2⟩ := hb; exact hd r h1 b hb' h2
    · exact hjk rfl
    · exact h.apart j k _ _ hjk hm b3 b (hon' b hb) hb'
    · exact h.apart j m _ _ a1 a3 hm b hb (hon b hb')
    · exact h.apart j k _ _ hjk a3 hm b hb (hon' b hb')
    · exact h.apart j k _ _ hjk a3 b3 b hb hb'
theorem T_unbank (m i : Nat) (rs' : List Row) (hm : L.get m = some (.many rs)) (hmi : Nat.beq m i = false) (hs : (v.ownBlock = none ∧ ∀ w, (It.own t s v q xs).sat w0.heap.size w) ∨ (⟨t, s, v, q, xs⟩ : Row) ∈ rs) (hr : ∀ r ∈ rs', r ∈ rs) (hd : ∀ r ∈ rs', ∀ b, v.ownBlock = some b → r.v.ownBlock ≠ some b)
    (h : T P w0 n c F ((i, .own t s v q xs) :: (m, .many rs') :: L) Q) : T P w0 n c F L Q := fun a w hF hM => h a w hF (hM.unbank hm (by intro e; subst e; simp at hmi) (hs.imp (fun x => ⟨x.1, x.2 w⟩) id) hr hd)
theorem Mem.manyEq (h : Mem w0 L w) (hm : L.get m = some (.many rs)) (hr : ∀ r ∈ rs', r ∈ rs) : Mem w0 ((m, .many rs') :: L) w := by
  have hon' : ∀ b, (It.many rs').on b → (It.many rs).on b := fun b ⟨r, h1, h2⟩ => ⟨r, hr r h1, h2⟩
  refine ⟨h.below, fun j p hp => ?_, fun j k p r hjk hp hq b hb hb' => ?_⟩
  · rcases HL.get_cons hp with ⟨rfl, rfl⟩ | ⟨_, h3⟩
    · exact fun r h1 => h.sat j _ hm r (hr r h1)
    · exact h.sat j p h3
  · rcases HL.get_cons hp with ⟨rfl, rfl⟩ | ⟨a1, a3⟩ <;> rcases HL.get_cons hq with ⟨rfl, rfl⟩ | ⟨b1, b3⟩
    · exact hjk rfl
    · exact h.apart j k _ _ hjk hm b3 b (hon' b hb) hb'
    · exact h.apart j k _ _ hjk a3 hm b hb (hon' b hb')
    · exact h.apart j k _ _ hjk a3 b3 b hb hb'
theorem S_manyEq (m : Nat) (rs' : List Row) (hm : L.get m = some (.many rs)) (hr : ∀ r ∈ rs', r ∈ rs) (h : S P w0 n ops l F ((m, .many rs') :: L) Q) : S P w0 n ops l F L Q := fun a w hF hM => h a w hF (hM.manyEq hm hr)
theorem S_known {p : Prop} (hp : ∀ w, Mem w0 L w → p) (h : p → S P w0 n ops l F L Q) : S P w0 n ops l F L Q := fun a w hF hM => h (hp w hM) a w hF hM
/-- an own row lies in no block of the many -/
theorem Mem.apart_row (h : Mem w0 L w) {m i : Nat} (hm : L.get m = some (.many rs)) (hi : L.get i = some (.own t s v q xs)) (hmi : Nat.beq m i = false) : ∀ r ∈ rs, ∀ b, v.ownBlock = some b → r.v.ownBlock ≠ some b := fun r hr b hb h2 =>
  h.apart m i _ _ (by intro e; subst e; simp at hmi) hm hi b ⟨r, hr, h2⟩ hb
end
section
variable {P : Program} {w0 : World} {n : Nat} {ops : Array Oper} {l : List Oper} {F : FL} {L : HL} {Q : Exit → Act → World → Prop} {o : Oper} {x : Operand} {t : TypeId} {α : Type}
end
end Go.Eng
