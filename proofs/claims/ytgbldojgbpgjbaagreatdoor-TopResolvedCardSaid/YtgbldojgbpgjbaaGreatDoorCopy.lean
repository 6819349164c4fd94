/- make([]T, n) and copy of elements of any size. No condition. -/
import Derived.Test.YtgbldojgbpgjbaaGreatDoorMany
import Derived.Test.YtgbldojgbpgjbaaGreatDoorApp
import Derived.Laws.OwnMore
import Derived.Laws.CopyRow
import Derived.Test.YtgbldojgbpgjbaaGreatDoorStrs
namespace Go.Eng
open Go.RowKit
set_option linter.unusedVariables false
set_option linter.unusedSimpArgs false
section
variable {P : Program} {w0 : World} {n : Nat} {ops : Array Oper} {l : List Oper} {F : FL} {L : HL} {Q : Exit → Act → World → Prop} {o : Oper} {x y : Operand} {t t' : TypeId}
/-- make([]T, n): a row of ours. -/
theorem S_makeSlice (d i : Nat) {e : TypeId} {info : TypeInfo} {z : Value} {k k' : IntKind} {size q : Nat} {xs : List Value} (hg : o.guard = none) (hd : o.dst = some d) (hdn : Nat.blt d n = true) (ho : o.op = .makeSlice t x y)
    (hx : F.ev x = some (true, .int k (q : Int))) (hy : F.ev y = some (true, .int k' (q : Int))) (ht : P.underlying t = some (.slice e)) (hi : P.info? e = some info) (hz : info.zero = some z) (hs : info.size = size)
    (hb : info.bytes * q ≤ 281474976710656) (hm : q ≤ maxLen) (hxs : (madeCells z.cells (q * size)).toList = xs)
    (hK : ∀ b, S P w0 n ops l ((d, true, .slice (some ⟨b, 0, none⟩) q q) :: F) ((i, .own e size (.slice (some ⟨b, 0, none⟩) q q) q xs) :: L) Q) : S P w0 n ops (o :: l) F L Q := by
  refine S_loud d hg hd hdn fun a w hF hM => ?_
  have hx' : a.eval x = .int k (q : Int) := by have := hF.eval hx; simpa using this
  have hy' : a.eval y = .int k' (q : Int) := by have := hF.eval hy; simpa using this
  obtain ⟨w', h1, h2, h3⟩ := run_make_full (P := P) w w.heap.size t e info z size ht hi hz hs k k' q hb hm (Nat.le_refl _)
  subst hxs
  have hB : Below w.heap.size w w' := (Below.refl _ _).grown h3 (Nat.le_refl _) (fun k hk => by cases hk)
  exact ⟨_, w', _, by simp [execOp, ho, hx', hy', h1, Result.andThen], hM.gain hB i h2, hK _⟩
/-- a pointer to an element of a row of ours is not nil -/
theorem y_nilCheckOwn (k : Nat) {A : Option Addr} {q c j size : Nat} {e : TypeId} {xs : List Value} {g gx : Bool} (ho : o.op = .nilCheck x) (hx : F.ev x = some (gx, .pointer (at_ A j size))) (hL : L.get k = some (.own e size (.slice A q c) q xs)) (hj : g = true → j < q)
    (hi : g = true → gx = true := by first | exact (fun _ => rfl) | exact (fun h => h) | exact (fun h => (Bool.and_eq_true_iff.1 h).1) | simp_all) : Y P w0 F L g o (.pointer (at_ A j size)) :=
  Y_of fun n a hF hg w hM => by
    obtain ⟨ad, rfl, _⟩ := (own_reads hM hL).2 (by have := hj hg; omega)
    simp only [execOp, ho, hF.eval_on hx hg hi, at_, Option.map_some]; rfl
end
end Go.Eng
