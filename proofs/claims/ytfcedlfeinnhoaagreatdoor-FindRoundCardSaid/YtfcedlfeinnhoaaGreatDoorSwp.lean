/- A whole element of an owned row is written. Conditions: those of each theorem. -/
import Derived.Test.YtfcedlfeinnhoaaGreatDoorCopy
namespace Go.Eng
set_option linter.unusedSimpArgs false
set_option linter.unusedVariables false
open Go.RowKit
section
variable {P : Program} {w0 : World} {n : Nat} {ops : Array Oper} {l : List Oper} {F : FL} {L : HL} {Q : Exit → Act → World → Prop} {o : Oper} {g : Bool} {v : Value} {x y z : Operand} {t t' : TypeId} {gx gy : Bool}
theorem take_splice {cur vs : List Value} {m p s : Nat} (hs : vs.length = s) (hp : p + s ≤ m) (hm : m ≤ cur.length) : (cur.take p ++ vs ++ cur.drop (p + s)).take m = (cur.take m).take p ++ vs ++ (cur.take m).drop (p + s) := by
  obtain ⟨c1, c2, hc, hl⟩ : ∃ c1 c2, cur = c1 ++ c2 ∧ c1.length = m := ⟨cur.take m, cur.drop m, (List.take_append_drop _ _).symm, by rw [List.length_take]; omega⟩
  subst hc
  have a1 : (c1 ++ c2).take p = c1.take p := List.take_append_of_le_length (by omega)
  have a2 : (c1 ++ c2).drop (p + s) = c1.drop (p + s) ++ c2 := List.drop_append_of_le_length (by omega)
  rw [a1, a2, ← List.append_assoc, List.take_left' hl]
  exact List.take_left' (by simp only [List.length_append, List.length_take, List.length_drop]; omega)
theorem S_storeEl (i : Nat) {A : Option Addr} {q c j size : Nat} {ty e : TypeId} {xs xs' vs : List Value} (hg : o.guard = none) (hd : o.dst = none) (ho : o.op = .store ty x y) (hx : F.ev x = some (true, .pointer (at_ A j size))) (hy : F.ev y = some (true, .agg vs.toArray))
    (hL : L.get i = some (.own e size (.slice A q c) q xs)) (hz : (P.info? ty).map (·.size) = some size) (hvl : vs.length = size) (h1 : (vs.all fun v => v.oneCell') = true) (hv : (Value.agg vs.toArray).cells = vs.toArray) (hj : j < q) (hxs : xs.take (j * size) ++ vs ++ xs.drop (j * size + size) = xs')
    (hK : S P w0 n ops l F ((i, .own e size (.slice A q c) q xs') :: L) Q) : S P w0 n ops (o :: l) F L Q :=
  S_mute hg hd fun a w hF hM => by
    subst hxs
    have hx' := hF.eval hx
    simp only [cond_true] at hx'
    have hy' : a.eval y = .agg vs.toArray := by have := hF.eval hy; simpa using this
    have hown : w.ownsRow w0.heap.size e size (.slice A q c) q xs := hM.sat i _ hL
    have hlen := hown.1
    have hpq : j * size + size ≤ q * size := by rw [← Nat.succ_mul]; exact Nat.mul_le_mul_right size hj
    rcases hown.2 with ⟨hvv, h0⟩ | ⟨gb, cap, cur, hvv, hb, hgb, hnc, hcm, hsz, ht⟩
    · have hq0 : q = 0 := by injection hvv
      omega
    · have hA : A = some ⟨gb, 0, none⟩ := by injection hvv
      have hc' : c = cap := by injection hvv
      subst hA; subst hc'
      have hqc : q * size ≤ c * size := Nat.mul_le_mul_right size hnc
      have hst := run_storeCells_at P gb (j * size) e vs 0 cur w hgb (by omega) (by simpa using h1)
      cases hq : P.info? ty with
      | none => simp [hq] at hz
      | some k =>
        simp only [hq, Option.map_some, Option.some.injEq] at hz
        refine ⟨w.setRow gb (cur.toList.take (j * size) ++ vs ++ cur.toList.drop (j * size + size)).toArray, _, ?_, hM.turn (p' := .own e size (.slice (some ⟨gb, 0, none⟩) q c) q (xs.take (j * size) ++ vs ++ xs.drop (j * size + size))) hL (by simpa [It.foot, Value.ownBlock] using grownBy_setRow _) ?_ (.inl rfl), hK⟩
        · simp only [Nat.add_zero, hvl] at hst
          simp only [execOp, ho, hx', hy', at_, Option.map_some, Instr.storeAt, Instr.sureAddr, storeVar, sizeOf, typeInfo, Sem.run_bind, Sem.run_pure, Result.andThen_ok, run_program, hq]
          rw [hv, add_zero_off, Nat.zero_add]
          simp [hz, hvl, hst]
        · have hcl : cur.toList.length = c * size := by simpa using hsz
          refine ⟨by simp only [List.length_append, List.length_take, List.length_drop, hlen, hvl]; omega, .inr ⟨gb, c, _, rfl, hb, setRow_heap w gb cur _ e (0, 0) hgb, hnc, hcm, ?_, ?_⟩⟩
          · simp only [List.size_toArray, List.length_append, List.length_take, List.length_drop, hvl, hcl]; omega
          · rw [← ht]
            exact take_splice hvl hpq (by omega)
end
theorem flat_setE {α : Type} {enc : α → List Value} {size : Nat} (hs : ∀ x, (enc x).length = size) {l : List α} {j : Nat} {x' : α} (h1 : j < l.length) : (l.flatMap enc).take (j * size) ++ enc x' ++ (l.flatMap enc).drop (j * size + size) = (l.set j x').flatMap enc := by
  have e1 : (l.take j).length = j := by rw [List.length_take]; omega
  have e2 : l = l.take j ++ l[j] :: l.drop (j + 1) := by rw [← List.drop_eq_getElem_cons h1, List.take_append_drop]
  have f1 : ((l.take j).flatMap enc).length = j * size := by rw [flat_lenN hs, e1]
  have e3 : l.flatMap enc = (l.take j).flatMap enc ++ (enc l[j] ++ (l.drop (j + 1)).flatMap enc) := by
    conv => lhs; rw [e2]
    rw [List.flatMap_append, List.flatMap_cons]
  have e4 : l.set j x' = l.take j ++ x' :: l.drop (j + 1) := by
    rw [List.set_eq_take_append_cons_drop, if_pos h1]
  rw [e4, List.flatMap_append, List.flatMap_cons, e3, ← f1, List.take_left, List.append_assoc]
  congr 2
  have : ∀ (X Y Z : List Value), Y.length = size → (X ++ (Y ++ Z)).drop (X.length + size) = Z := fun X Y Z hY => by
    rw [← List.drop_drop, List.drop_left, ← hY, List.drop_left]
  exact this _ _ _ (hs _)
end Go.Eng
