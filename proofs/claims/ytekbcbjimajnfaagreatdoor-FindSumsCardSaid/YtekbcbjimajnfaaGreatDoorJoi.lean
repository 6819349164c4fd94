/- Two lots of kept rows become one; a call whose contract begins at the present world. No condition. -/
import Derived.Test.YtekbcbjimajnfaaGreatDoorMany
namespace Go.Eng
open Go.RowKit
set_option linter.unusedVariables false
section
variable {P : Program} {w0 w w1 w' : World} {n : Nat} {ops : Array Oper} {l : List Oper} {c : Code} {F : FL} {L L2 : HL} {Q : Exit → Act → World → Prop} {o : Oper} {rs rs' : List Row} {m i : Nat}
theorem Mem.joinK {ks : List (Nat × Nat)} {KL : HL} (h : Mem w0 L w) (hm : L.get m = some (.many rs)) (hi : L.get i = some (.many rs')) (hmi : Nat.beq m i = false) (hki : memR ks i = true) (hK : KeepL ks L KL) : Mem w0 ((m, .many (rs ++ rs')) :: KL) w := by
  have key : ∀ j p, HL.get ((m, It.many (rs ++ rs')) :: KL) j = some p → (j = m ∧ p = .many (rs ++ rs')) ∨ (j ≠ m ∧ j ≠ i ∧ L.get j = some p) := fun j p hp => by
    rcases HL.get_cons hp with ⟨h1, h2⟩ | ⟨h1, h2⟩
    · exact .inl ⟨h1, h2⟩
    · obtain ⟨g1, g2⟩ := hK j p h2
      exact .inr ⟨h1, (fun e => by subst e; rw [hki] at g1; cases g1), g2⟩
  have hmi' : m ≠ i := by intro e; subst e; simp at hmi
  have on' : ∀ b, (It.many (rs ++ rs')).on b → (It.many rs).on b ∨ (It.many rs').on b := fun b ⟨r, h1, h2⟩ => (List.mem_append.1 h1).imp (fun h => ⟨r, h, h2⟩) (fun h => ⟨r, h, h2⟩)
  refine ⟨h.below, fun j p hp => ?_, fun j k p r hjk hp hq b hb hb' => ?_⟩
  · rcases key j p hp with ⟨_, rfl⟩ | ⟨_, _, h3⟩
    · intro r hr
      rcases List.mem_append.1 hr with hr | hr
      · exact h.sat m _ hm r hr
      · exact h.sat i _ hi r hr
    · exact h.sat j p h3
  · rcases key j p hp with ⟨rfl, rfl⟩ | ⟨a1, a2, a3⟩ <;> rcases key k r hq with ⟨rfl, rfl⟩ | ⟨b1, b2, b3⟩
    · exact hjk rfl
    · rcases on' b hb with hb | hb
      · exact h.apart j k _ _ (Ne.symm b1) hm b3 b hb hb'
      · exact h.apart i k _ _ (Ne.symm b2) hi b3 b hb hb'
    · rcases on' b hb' with hb' | hb'
      · exact h.apart j k _ _ a1 a3 hm b hb hb'
      · exact h.apart j i _ _ a2 a3 hi b hb hb'
    · exact h.apart j k _ _ hjk a3 b3 b hb hb'
theorem row_lower {B B' : Nat} {t : TypeId} {s q : Nat} {v : Value} {xs : List Value} (h : w.ownsRow B' t s v q xs) (hB : B ≤ B') : w.ownsRow B t s v q xs := by
  refine ⟨h.1, ?_⟩
  rcases h.2 with hn | ⟨g, cap, cur, hv, hb, rest⟩
  · exact .inl hn
  · exact .inr ⟨g, cap, cur, hv, Nat.le_trans hB hb, rest⟩
theorem It.lower {B B' : Nat} {p : It} (h : p.sat B' w) (hB : B ≤ B') : p.sat B w := by
  cases p with
  | blk b φ => exact ⟨Nat.le_trans hB h.1, h.2⟩
  | own t s v q xs => exact row_lower h hB
  | many rs => exact fun r hr => row_lower (h r hr) hB
/-- what was made since a later world, over what was known then -/
theorem Mem.over (h : Mem w0 L w1) (h2 : Mem w1 L2 w') : Mem w0 (L2 ++ L) w' := by
  have hle : w0.heap.size ≤ w1.heap.size := h.below.size
  have key : ∀ j p, HL.get (L2 ++ L) j = some p → L2.get j = some p ∨ (L2.get j = none ∧ L.get j = some p) := fun j p hp => by
    rw [get_app] at hp
    cases hq : L2.get j with
    | some q => rw [hq] at hp; exact .inl hp
    | none => rw [hq] at hp; exact .inr ⟨rfl, hp⟩
  refine ⟨h.below.trans (h2.below.mono hle), fun j p hp => ?_, fun j k p r hjk hp hq b hb hb' => ?_⟩
  · rcases key j p hp with h3 | ⟨_, h3⟩
    · exact It.lower (h2.sat j p h3) hle
    · exact It.keep (h.sat j p h3) fun b hb => h2.below.block b (It.lt (h.sat j p h3) b hb).2
  · rcases key j p hp with a | ⟨_, a⟩ <;> rcases key k r hq with a' | ⟨_, a'⟩
    · exact h2.apart j k p r hjk a a' b hb hb'
    · have h5 := (It.lt (h2.sat j p a) b hb).1
      have h6 := (It.lt (h.sat k r a') b hb').2
      omega
    · have h5 := (It.lt (h2.sat k r a') b hb').1
      have h6 := (It.lt (h.sat j p a) b hb).2
      omega
    · exact h.apart j k p r hjk a a' b hb hb'
theorem S_callB (d : Nat) {X : Type} {f : FuncId} {fx : Operand} {as : List Operand} {ts : Array TypeId} {cap : Array Value} {gs : List Bool} {vs : List Value} (hg : o.guard = none) (hd : o.dst = some d) (hdn : Nat.blt d n = true)
    (ho : o.op = .call { callee := .value fx, args := as.toArray, argTypes := ts }) (hf : F.ev fx = some (true, .func (.func f) #[] cap)) (hv : F.evs as = some (gs, vs)) (hgs : gs.all id = true) (hc : ∀ args w, (callFunc f args).run P w = .ok (.enter f args) w)
    (rv : X → Value) (Px : X → Prop) (Lx : X → HL)
    (h : ∀ w1, Mem w0 L w1 → Calls P f (vs.toArray ++ cap) w1 fun e w' => ∃ x, e = .returned (rv x) ∧ Px x ∧ Mem w1 (Lx x) w')
    (hK : ∀ x, Px x → S P w0 n ops l ((d, true, rv x) :: F) (Lx x ++ L) Q) : S P w0 n ops (o :: l) F L Q :=
  S_call d hg hd hdn ho hf hv hgs hc rv Px (fun x => Lx x ++ L) (fun w1 hM => (h w1 hM).mono fun e w' ⟨x, h1, h2, h3⟩ => ⟨x, h1, h2, hM.over h3⟩) hK
end
end Go.Eng
