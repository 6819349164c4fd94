/- Arguments of a type that holds itself: opened by how deep the reading goes. No condition. -/
import Derived.Test.YtgbldojgbpgjbaaGreatDoorOpen
namespace Go.Eng
set_option linter.unusedSimpArgs false
set_option linter.unusedVariables false
set_option linter.unusedSectionVars false
open Go.RowKit Go.ChangeShapes Go.WideShapes
section
variable {H : Type} {enc : TypeId × Value → H} {P : Program} {w : World}
def PrN (N : Nat) (enc : TypeId × Value → H) (P : Program) (w : World) (t : TypeId) (cs : List Value) (d : DataW H) : Prop :=
  (∃ n ps, n ≤ N ∧ DataW.trod enc P w 0 (fun _ => true) true n t cs = some (d, ps)) ∧ ∀ n ∈ d.weights P t, n ≤ reachBytes
theorem PrN.pr {N : Nat} {t : TypeId} {cs : List Value} {d : DataW H} (h : PrN N enc P w t cs d) : Pr enc P w t cs d := by
  obtain ⟨⟨n, ps, _, h⟩, hw⟩ := h
  exact ⟨⟨n, ps, h⟩, hw⟩
theorem Pr.prN {t : TypeId} {cs : List Value} {d : DataW H} (h : Pr enc P w t cs d) : ∃ N, PrN N enc P w t cs d := by
  obtain ⟨⟨n, ps, h⟩, hw⟩ := h
  exact ⟨n, ⟨n, ps, Nat.le_refl _, h⟩, hw⟩
structure OpnN (N : Nat) (enc : TypeId × Value → H) (P : Program) (w : World) (t : TypeId) {X : Type} (e : X → List Value) (G : X → Prop) (R : X → DataW H → Prop) : Prop where
  op : ∀ cs d, PrN N enc P w t cs d → ∃ a, cs = e a ∧ G a ∧ R a d
theorem Opn.n {N : Nat} {t : TypeId} {X : Type} {e : X → List Value} {G : X → Prop} {R : X → DataW H → Prop} (h : Opn enc P w t e G R) : OpnN N enc P w t e G R := ⟨fun cs d hp => h.op cs d hp.pr⟩
theorem OpnN.all {t : TypeId} {X : Type} {e : X → List Value} {G : X → Prop} {R : X → DataW H → Prop} (h : ∀ N, OpnN N enc P w t e G R) : Opn enc P w t e G R := ⟨fun cs d hp => by
  obtain ⟨N, hN⟩ := hp.prN
  exact (h N).op cs d hN⟩
theorem OpnN.map {N : Nat} {t : TypeId} {X Y : Type} {e : X → List Value} {G : X → Prop} {R : X → DataW H → Prop} {e' : Y → List Value} {G' : Y → Prop} {R' : Y → DataW H → Prop} (h : OpnN N enc P w t e G R) (f : X → Y)
    (he : ∀ a, e a = e' (f a)) (hG : ∀ a, G a → G' (f a)) (hR : ∀ a d, G a → R a d → R' (f a) d) : OpnN N enc P w t e' G' R' := ⟨fun cs d hp => by
  obtain ⟨a, h1, h2, h3⟩ := h.op cs d hp
  exact ⟨f a, h1.trans (he a), hG a h2, hR a d h2 h3⟩⟩
end
end Go.Eng
