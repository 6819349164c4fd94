/- A row of the many taken back to be turned, and the many said anew. No condition. -/
import Derived.Test.YtekbcbjimajnfaaGreatDoorMany
import Derived.Test.YtekbcbjimajnfaaGreatDoorMapR
namespace Go.Eng
open Go.RowKit
set_option linter.unusedVariables false
section
variable {P : Program} {w0 w : World} {n : Nat} {ops : Array Oper} {l : List Oper} {c : Code} {F : FL} {L : HL} {Q : Exit → Act → World → Prop} {rs rs' : List Row} {m i : Nat} {t : TypeId} {s q : Nat} {v : Value} {xs : List Value}
theorem S_known {p : Prop} (hp : ∀ w, Mem w0 L w → p) (h : p → S P w0 n ops l F L Q) : S P w0 n ops l F L Q := fun a w hF hM => h (hp w hM) a w hF hM
/-- an own row lies in no block of the many -/
theorem Mem.apart_row (h : Mem w0 L w) {m i : Nat} (hm : L.get m = some (.many rs)) (hi : L.get i = some (.own t s v q xs)) (hmi : Nat.beq m i = false) : ∀ r ∈ rs, ∀ b, v.ownBlock = some b → r.v.ownBlock ≠ some b := fun r hr b hb h2 =>
  h.apart m i _ _ (by intro e; subst e; simp at hmi) hm hi b ⟨r, hr, h2⟩ hb
end
section
variable {P : Program} {w0 : World} {n : Nat} {ops : Array Oper} {l : List Oper} {F : FL} {L : HL} {Q : Exit → Act → World → Prop} {o : Oper} {x : Operand} {t : TypeId} {α : Type}
/-- the range over a map that is asked again after it -/
theorem S_rangeM (d i j : Nat) {β : Type} (ke ve : β → Value) {enc : α → Value} {b : Nat} {kv : List (α × Value)} (ps : List β) (hps : kv.map (fun p => (enc p.1, p.2)) = ps.map (fun p => (ke p, ve p))) {kt et : TypeId} (hg : o.guard = none) (hd : o.dst = some d) (hdn : Nat.blt d n = true) (ho : o.op = .range t x) (hx : F.ev x = some (true, .map (some b)))
    (hL : L.get i = some (.blk b (IsMap enc kv))) (ht : P.underlying t = some (.map kt et))
    (hK : ∀ r es clock, IsMap enc kv (.map es clock) → S P w0 n ops l ((d, true, .pointer (some ⟨r, 0, none⟩)) :: F) ((j, .blk r (IsIt ke ve b es clock ps none)) :: (i, .blk b (IsEs es clock)) :: L) Q) : S P w0 n ops (o :: l) F L Q :=
  S_loud d hg hd hdn fun a w hF hM => by
    have hx' : a.eval x = .map (some b) := by have := hF.eval hx; simpa using this
    obtain ⟨hb, ob, h1, es, clock, rfl, h2, h3, h4⟩ := hM.sat i _ hL
    have hM2 : Mem w0 ((i, .blk b (IsEs es clock)) :: L) w := hM.turn (p' := .blk b (IsEs es clock)) hL ⟨rfl, rfl, rfl, Nat.le_refl _, fun _ _ _ => rfl⟩ ⟨hb, _, h1, rfl, h3, h4⟩ (.inl rfl)
    refine ⟨_, w.alloc (.mapIter (some b) clock #[] clock), _, ?_, hM2.new j _ (IsIt ke ve b es clock ps none) ⟨#[], clock, rfl, Nat.le_refl _, ?_, fun p h => by cases h⟩, hK w.heap.size es clock ⟨es, clock, rfl, h2, h3, h4⟩⟩
    · simp only [execOp, ho, hx', Instr.range, Sem.run_bind, run_underlying ht, Result.andThen_ok, run_getObj_map h1, Sem.run_pure, run_newObj]
      rfl
    · have e : leftOf es #[] = es := by unfold leftOf; simp
      rw [e, h2]; exact hps
theorem S_remap (i : Nat) {enc : α → Value} {kv : List (α × Value)} {b clock : Nat} {es : Array MapEntry} (hL : L.get i = some (.blk b (IsEs es clock))) (hes : IsMap enc kv (.map es clock)) (h : S P w0 n ops l F ((i, .blk b (IsMap enc kv)) :: L) Q) : S P w0 n ops l F L Q := fun a w hF hM => h a w hF (by
  obtain ⟨hb, ob, h1, rfl, _, _⟩ := hM.sat i _ hL
  exact hM.turn (p' := .blk b (IsMap enc kv)) hL ⟨rfl, rfl, rfl, Nat.le_refl _, fun _ _ _ => rfl⟩ ⟨hb, _, h1, hes⟩ (.inl rfl))
end
end Go.Eng
