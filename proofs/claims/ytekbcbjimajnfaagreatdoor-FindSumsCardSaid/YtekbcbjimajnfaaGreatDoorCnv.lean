/- An owned row as a box whose cells are all known, and back: for callees that write one cell behind a pointer. No condition. -/
import Derived.Test.YtekbcbjimajnfaaGreatDoorMany
import Derived.Test.YtekbcbjimajnfaaGreatDoorStrs
namespace Go.Eng
open Go.RowKit
set_option linter.unusedVariables false
section
variable {P : Program} {w0 w : World} {n : Nat} {ops : Array Oper} {l : List Oper} {c : Code} {F : FL} {L : HL} {Q : Exit → Act → World → Prop} {i : Nat} {t : TypeId} {s q k g : Nat} {xs cur : List Value} {A : Option Addr}
end
/-! ### what a loop keeps, by lookup; what is shadowed does not count -/
def KeepS (ks : List (Nat × Nat)) (seen : List Nat) (L K : HL) : Prop := ∀ i p, K.get i = some p → seen.contains i = false → memR ks i = false ∧ L.get i = some p
theorem ks_go {ks : List (Nat × Nat)} {L K : HL} (h : KeepS ks [] L K) : KeepL ks L K := fun i p hi => h i p hi rfl
theorem ks_nil {ks : List (Nat × Nat)} {seen : List Nat} {L : HL} : KeepS ks seen L [] := fun i p h => by simp [HL.get] at h
theorem ks_cons {ks : List (Nat × Nat)} {seen : List Nat} {d : Nat} {p : It} {L K : HL} (hd : memR ks d = false) (hL : L.get d = some p) (h : KeepS ks (d :: seen) L K) : KeepS ks seen L ((d, p) :: K) := fun i q hi hs => by
  rcases HL.get_cons hi with ⟨rfl, rfl⟩ | ⟨hne, h2⟩
  · exact ⟨hd, hL⟩
  · refine h i q h2 ?_
    rw [List.contains_cons, hs, Bool.or_false]
    simpa using hne
theorem ks_dup {ks : List (Nat × Nat)} {seen : List Nat} {d : Nat} {p : It} {L K : HL} (hd : seen.contains d = true) (h : KeepS ks seen L K) : KeepS ks seen L ((d, p) :: K) := fun i q hi hs => by
  rcases HL.get_cons hi with ⟨rfl, rfl⟩ | ⟨_, h2⟩
  · rw [hd] at hs; cases hs
  · exact h i q h2 hs
theorem ks_tail {ks : List (Nat × Nat)} {seen : List Nat} {L K : HL} (hK : FromK K) (hks : rngLt ks = true) (ht : TailIs L K) : KeepS ks seen L K := fun i p h _ => kl_tail hK hks ht i p h
end Go.Eng
