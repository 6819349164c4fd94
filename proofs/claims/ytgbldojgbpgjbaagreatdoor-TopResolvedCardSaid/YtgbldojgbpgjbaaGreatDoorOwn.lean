/- Rows of ours whose elements have a type: a callee's new slice taken over, elements read and written. No condition. -/
import Derived.Test.YtgbldojgbpgjbaaGreatDoorMore
namespace Go.Eng
set_option linter.unusedSimpArgs false
set_option linter.unusedVariables false
set_option linter.unusedSectionVars false
open Go.RowKit
section
variable {P : Program} {w0 : World} {n : Nat} {ops : Array Oper} {l : List Oper} {F : FL} {L : HL} {Q : Exit → Act → World → Prop} {o : Oper} {g : Bool} {v : Value} {x y z : Operand} {t t' : TypeId} {gx gy : Bool}
/-- A call that hands back a new slice (alone or beside other values). -/
theorem S_callOwn (d i : Nat) {f : FuncId} {fx : Operand} {as : List Operand} {ts : Array TypeId} {cap : Array Value} {gs : List Bool} {vs : List Value} (hg : o.guard = none) (hd : o.dst = some d) (hdn : Nat.blt d n = true)
    (ho : o.op = .call { callee := .value fx, args := as.toArray, argTypes := ts }) (hf : F.ev fx = some (true, .func (.func f) #[] cap)) (hv : F.evs as = some (gs, vs)) (hgs : gs.all id = true) (hc : ∀ args w, (callFunc f args).run P w = .ok (.enter f args) w)
    (rv : Option Addr → Nat → Value) (et size q : Nat) (xs : List Value)
    (h : ∀ w, Mem w0 L w → Calls P f (vs.toArray ++ cap) w fun e w' => ∃ A c, e = .returned (rv A c) ∧ w'.ownsRow w.heap.size et size (.slice A q c) q xs ∧ Below w.heap.size w w')
    (hK : ∀ A c, S P w0 n ops l ((d, true, rv A c) :: F) ((i, .own et size (.slice A q c) q xs) :: L) Q) : S P w0 n ops (o :: l) F L Q :=
  S_call d (X := Option Addr × Nat) hg hd hdn ho hf hv hgs hc (fun p => rv p.1 p.2) (fun _ => True) (fun p => (i, .own et size (.slice p.1 q p.2) q xs) :: L)
    (fun w hM => (h w hM).mono fun e w' ⟨A, c, h1, h2, h3⟩ => ⟨(A, c), h1, trivial, hM.gain h3 i h2⟩) (fun p _ => hK p.1 p.2)
variable {α : Type} {enc : α → List Value} {A : Option Addr} {q c j size : Nat} {ty e : TypeId} {xl : List α} {d : TypeDesc} {xe : α}
theorem b_shrv {k k' : IntKind} {m p : Int} (V : Int) (h0 : 0 ≤ p) (h1 : p ≤ k.bits) (hV : m / 2 ^ p.toNat = V) : ∀ w, (do eqGuard .shr t x y (.int k m) (.int k' p); binOp .shr t (.int k m) (.int k' p) : Sem Value).run P w = .ok (.int k V) w := fun w => by
  subst hV
  simp only [eqGuard_shr, binOp_shr, shift_shr k k' m p h0 h1]; rfl
theorem wrap64_in {V : Int} (h : 0 ≤ V ∧ V ≤ 9223372036854775807) : IntKind.u64.wrap V = V := wrap_in .u64 V ⟨by simp [IntKind.min, IntKind.signed]; omega, by simp [IntKind.max, IntKind.signed, IntKind.bits]; omega⟩
/-- An index whose number is a Nat where the operation is reached. -/
theorem y_indexOwnI (i : Nat) {m : Int} {e' : TypeId} {k : IntKind} {xs : List Value} (ho : o.op = .indexAddr t x y) (hx : F.ev x = some (gx, .slice A q c)) (hy : F.ev y = some (gy, .int k m)) (hm : g = true → m = (j : Int)) (hL : L.get i = some (.own e' size (.slice A q c) q xs))
    (ht : P.underlying t = some (.slice e)) (hz : (P.info? e).map (·.size) = some size) (hj : g = true → j < q)
    (hi : g = true → gx = true := by first | exact (fun _ => rfl) | exact (fun h => h) | exact (fun h => (Bool.and_eq_true_iff.1 h).1) | simp_all) (hi' : g = true → gy = true := by first | exact (fun _ => rfl) | exact (fun h => h) | exact (fun h => (Bool.and_eq_true_iff.1 h).1) | simp_all) : Y P w0 F L g o (.pointer (at_ A j size)) := fun n a hF hg w hM => by
  have := hm hg
  subst this
  exact y_indexOwn i ho hx hy hL ht hz hj hi hi' n a hF hg w hM
theorem y_indexAddrI {m : Int} {k : IntKind} (ho : o.op = .indexAddr t x y) (hx : F.ev x = some (gx, .slice A q c)) (hy : F.ev y = some (gy, .int k m)) (hm : g = true → m = (j : Int)) (ht : P.underlying t = some (.slice e)) (hz : (P.info? e).map (·.size) = some size)
    (hA : g = true → A.isSome = true) (hj : g = true → j < q)
    (hi : g = true → gx = true := by first | exact (fun _ => rfl) | exact (fun h => h) | exact (fun h => (Bool.and_eq_true_iff.1 h).1) | simp_all) (hi' : g = true → gy = true := by first | exact (fun _ => rfl) | exact (fun h => h) | exact (fun h => (Bool.and_eq_true_iff.1 h).1) | simp_all) : Y P w0 F L g o (.pointer (at_ A j size)) := fun n a hF hg w hM => by
  have := hm hg
  subst this
  exact y_indexAddr ho hx hy ht hz hA hj hi hi' n a hF hg w hM
theorem y_loadO (i : Nat) (ho : o.op = .load ty x) (hx : F.ev x = some (gx, .pointer (at_ A j size))) (hL : L.get i = some (.own e size (.slice A q c) q (xl.flatMap enc))) (hl : xl.length = q) (hsz : ∀ x, (enc x).length = size) (hv : g = true → xl[j]? = some xe)
    (hu : P.underlying ty = some d) (hd : isAggB d = true) (hz : (P.info? ty).map (·.size) = some (enc xe).length) (hi : g = true → gx = true := by first | exact (fun _ => rfl) | exact (fun h => h) | exact (fun h => (Bool.and_eq_true_iff.1 h).1) | simp_all) : Y P w0 F L g o (.agg (enc xe).toArray) :=
  y_load_ownA i ho hx hL (fun hg => by have := (List.getElem?_eq_some_iff.1 (hv hg)).1; rw [← hl]; exact this) (fun hg => flat_at hsz (hv hg)) hu hd hz hi
theorem y_loadO1 (i : Nat) {val : α → Value} (ho : o.op = .load ty x) (hx : F.ev x = some (gx, .pointer (at_ A j 1))) (hL : L.get i = some (.own e 1 (.slice A q c) q (xl.flatMap fun a => [val a]))) (hl : xl.length = q) (hv : g = true → xl[j]? = some xe)
    (hu : P.underlying ty = some d) (hd : isAggB d = false) (hi : g = true → gx = true := by first | exact (fun _ => rfl) | exact (fun h => h) | exact (fun h => (Bool.and_eq_true_iff.1 h).1) | simp_all) : Y P w0 F L g o (val xe) :=
  y_load_own i ho hx hL (fun hg => by have := (List.getElem?_eq_some_iff.1 (hv hg)).1; rw [← hl]; exact this) (fun hg => by have := flat_at (enc := fun a => [val a]) (size := 1) (fun _ => rfl) (hv hg) 0 (val xe) rfl; simpa using this) hu hd hi
theorem flat_set {off : Nat} {u : Value} {xe' : α} (hs : ∀ x, (enc x).length = size) : ∀ {xl : List α} {j : Nat} {xe : α}, xl[j]? = some xe → off < size → enc xe' = (enc xe).set off u → (xl.flatMap enc).set (j * size + off) u = (xl.set j xe').flatMap enc
  | [], j, xe, h, _, _ => by simp at h
  | a :: r, 0, xe, h, ho, he => by
    simp at h; subst h
    rw [Nat.zero_mul, Nat.zero_add, List.flatMap_cons, List.set_append_left _ _ (by rw [hs]; exact ho), List.set_cons_zero, List.flatMap_cons, he]
  | a :: r, j + 1, xe, h, ho, he => by
    have h' : r[j]? = some xe := by simpa using h
    have e : (j + 1) * size + off = (enc a).length + (j * size + off) := by rw [hs a, Nat.succ_mul]; omega
    rw [List.flatMap_cons, e, List.set_append_right _ _ (by omega), Nat.add_sub_cancel_left, flat_set hs h' ho he, List.set_cons_succ, List.flatMap_cons]
end
end Go.Eng
