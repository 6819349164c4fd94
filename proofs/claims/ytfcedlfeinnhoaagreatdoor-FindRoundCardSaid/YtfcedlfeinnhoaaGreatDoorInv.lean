/- A call through an interface whose dynamic type is known; copy into the middle of a row of ours of one-cell elements; make with a length of nought. Conditions: those of each rule. -/
import Derived.Test.YtfcedlfeinnhoaaGreatDoorCopy
namespace Go.Eng
open Go.RowKit
set_option linter.unusedSimpArgs false
set_option linter.unusedVariables false
section
variable {P : Program} {w0 : World} {F : FL} {L : HL} {n : Nat} {ops : Array Oper} {l : List Oper} {Q : Exit → Act → World → Prop} {o : Oper} {g gx : Bool} {t t' : TypeId} {x y : Operand} {v : Value}
theorem run_invoke {a : Act} {w : World} {f : FuncId} {rx : Operand} {nm : String} {T : TypeId} {rv : Value} {as : List Operand} {ts : Array TypeId} {vs : List Value} (ho : o.op = .call { callee := .invoke rx nm, args := as.toArray, argTypes := ts })
    (hr : a.eval rx = .iface T rv) (hv : as.map a.eval = vs) (hm : ∀ w, (Go.method (P.types.size + Made.depth) T rv nm).run P w = .ok (f, rv) w) (hc : ∀ args w, (callFunc f args).run P w = .ok (.enter f args) w) : (execOp a.eval o).run P w = .ok (.enter f (rv :: vs).toArray) w := by
  have e : (#[Value.iface T rv] ++ (as.toArray.map a.eval)).extract 1 (#[Value.iface T rv] ++ (as.toArray.map a.eval)).size = vs.toArray := by
    rw [← hv]; simp [List.take_of_length_le]
  have e0 : (#[Value.iface T rv] ++ (as.toArray.map a.eval))[0]? = some (.iface T rv) := by simp
  simp only [execOp, ho, resolve, Sem.run_bind, Sem.run_pure, Result.andThen_ok, hr, invoke, callMethod, e0, e, run_program, hm, hc]
  simp
/-- A call through an interface that hands back a value known ahead, and turns nothing that was there. -/
theorem y_invoke {f : FuncId} {rx : Operand} {nm : String} {T : TypeId} {rv : Value} {as : List Operand} {ts : Array TypeId} {gs : List Bool} {vs : List Value} {gf : Bool} (ho : o.op = .call { callee := .invoke rx nm, args := as.toArray, argTypes := ts })
    (hr : F.ev rx = some (gf, .iface T rv)) (hv : F.evs as = some (gs, vs)) (hm : ∀ w, (Go.method (P.types.size + Made.depth) T rv nm).run P w = .ok (f, rv) w) (hc : ∀ args w, (callFunc f args).run P w = .ok (.enter f args) w)
    (h : g = true → ∀ w, Mem w0 L w → Calls P f (rv :: vs).toArray w fun e w' => e = .returned v ∧ Below w.heap.size w w')
    (hi : g = true → gf = true := by first | exact (fun _ => rfl) | exact (fun h => h) | exact (fun h => (Bool.and_eq_true_iff.1 h).1) | simp_all) (hi' : g = true → gs.all id = true := by first | exact (fun _ => rfl) | (intro h; simp_all)) : Y P w0 F L g o v := fun n a hF hg w hM => by
  unfold Oper.quietAt
  rw [run_invoke ho (hF.eval_on hr hg hi) (evs_map hF as hv (hi' hg)) hm hc]
  exact ⟨rfl, (h hg w hM).mono fun e w' ⟨he, hb⟩ => ⟨he, hM.call hb⟩⟩
theorem y_makeIfaceP {e : TypeId} (ho : o.op = .makeInterface t x) (hx : F.ev x = some (gx, v)) (ht : P.underlying t = some (.pointer e))
    (hi : g = true → gx = true := by first | exact (fun _ => rfl) | exact (fun h => h) | exact (fun h => (Bool.and_eq_true_iff.1 h).1) | simp_all) : Y P w0 F L g o (.iface t v) :=
  Y_of fun n a hF hg w hM => by
    simp only [execOp, ho, hF.eval_on hx hg hi, Instr.makeInterface, Sem.run_bind, run_underlying ht]; rfl
theorem cut3 {α : Type} (cur ys : List α) (j m q : Nat) (hm : ys.length = m) (h : j + m ≤ q) (hq : q ≤ cur.length) : (cur.take j ++ ys ++ cur.drop (j + m)).take q = (cur.take q).take j ++ ys ++ (cur.take q).drop (j + m) := by
  have h1 : (cur.take j ++ ys).length = j + m := by rw [List.length_append, List.length_take, hm, Nat.min_eq_left (by omega)]
  rw [List.take_append, h1, List.take_of_length_le (by omega), List.take_take, Nat.min_eq_left (by omega), List.drop_take]
theorem S_copyAt (d i : Nat) {e e' : TypeId} {gb j m1 c1 q c m c2 : Nat} {A2 : Option Addr} {xs ys : List Value} (hg : o.guard = none) (hd : o.dst = some d) (hdn : Nat.blt d n = true)
    (ho : o.op = .call { callee := .builtin .copy, args := #[x, y], argTypes := #[t, t'] }) (hx : F.ev x = some (true, .slice (some ⟨gb, j, none⟩) m1 c1)) (hy : F.ev y = some (true, .slice A2 m c2))
    (hL : L.get i = some (.own e 1 (.slice (some ⟨gb, 0, none⟩) q c) q xs)) (ht : P.underlying t = some (.slice e')) (hz : (P.info? e').map (·.size) = some 1)
    (hsrc : ∀ w, Mem w0 L w → SlR w 1 A2 m ys) (h1 : ∀ v ∈ ys, v.oneCell' = true) (hm : m ≤ m1) (hq : j + m ≤ q) (hp : 0 < m) (xs' : List Value) (hxs : xs.take j ++ ys ++ xs.drop (j + m) = xs')
    (hK : S P w0 n ops l ((d, true, .int .i64 (m : Int)) :: F) ((i, .own e 1 (.slice (some ⟨gb, 0, none⟩) q c) q xs') :: L) Q) : S P w0 n ops (o :: l) F L Q := by
  refine S_loud d hg hd hdn fun a w hF hM => ?_
  subst hxs
  have hx' : a.eval x = .slice (some ⟨gb, j, none⟩) m1 c1 := by have := hF.eval hx; simpa using this
  have hy' : a.eval y = .slice A2 m c2 := by have := hF.eval hy; simpa using this
  have hown : w.ownsRow w0.heap.size e 1 (.slice (some ⟨gb, 0, none⟩) q c) q xs := hM.sat i _ hL
  obtain ⟨hyl, hyr⟩ := hsrc w hM
  have hyl : ys.length = m := by omega
  have hxl := hown.1
  have hmin : Nat.min m m1 = m := Nat.min_eq_left hm
  rcases hown.2 with ⟨h0, _⟩ | ⟨gb', cap, cur, hvv, hb, hgb, hnc, hcm, hsz, ht'⟩
  · cases h0
  · have hA : gb = gb' := by injection hvv with h _ _; injection h with h; injection h
    have hc' : c = cap := by injection hvv
    subst hA; subst hc'
    obtain ⟨ad, rfl, _, hcell⟩ := hyr hp
    have hcl : cur.toList.length = c := by simpa using hsz
    have hr := run_copy_rowN (P := P) w t t' o.type e' gb j m1 c1 1 ad m c2 cur e ys ht hz hgb (by rw [hmin]; omega) hcell (by omega) h1
    rw [hmin] at hr
    refine ⟨.int .i64 (m : Int), w.setRow gb (cur.toList.take j ++ ys ++ cur.toList.drop (j + ys.length)).toArray, _, ?_, hM.turn (p' := .own e 1 (.slice (some ⟨gb, 0, none⟩) q c) q (xs.take j ++ ys ++ xs.drop (j + m))) hL (by simpa [It.foot, Value.ownBlock] using grownBy_setRow _) ?_ (.inl rfl), hK⟩
    · simp only [execOp, ho, resolve, invoke, builtin, List.size_toArray, hx', hy']
      simp [hr, Result.andThen, hx', hy', goInt]
    · refine ⟨?_, .inr ⟨gb, c, _, rfl, hb, setRow_heap w gb cur _ e (0, 0) hgb, hnc, hcm, ?_, ?_⟩⟩
      · simp only [List.length_append, List.length_take, List.length_drop]; omega
      · simp; omega
      · rw [Nat.mul_one] at ht' ⊢
        rw [hyl, ← ht']
        exact cut3 cur.toList ys j m q hyl hq (by omega)
/-- make of no elements, with room -/
theorem S_makeRoom (d i : Nat) {e : TypeId} {info : TypeInfo} {z : Value} {k k' : IntKind} {size c : Nat} (hg : o.guard = none) (hd : o.dst = some d) (hdn : Nat.blt d n = true) (ho : o.op = .makeSlice t x y)
    (hx : F.ev x = some (true, .int k 0)) (hy : F.ev y = some (true, .int k' (c : Int))) (ht : P.underlying t = some (.slice e)) (hi : P.info? e = some info) (hz : info.zero = some z) (hs : info.size = size)
    (hb : info.bytes * c ≤ 281474976710656) (hm : c ≤ maxLen)
    (hK : ∀ b, S P w0 n ops l ((d, true, .slice (some ⟨b, 0, none⟩) 0 c) :: F) ((i, .own e size (.slice (some ⟨b, 0, none⟩) 0 c) 0 []) :: L) Q) : S P w0 n ops (o :: l) F L Q := by
  refine S_loud d hg hd hdn fun a w hF hM => ?_
  have hx' : a.eval x = .int k 0 := by have := hF.eval hx; simpa using this
  have hy' : a.eval y = .int k' (c : Int) := by have := hF.eval hy; simpa using this
  obtain ⟨w', h1, h2, h3⟩ := run_make_own (P := P) w w.heap.size t e info z size ht hi hz hs k k' c hb hm (Nat.le_refl _)
  have hB : Below w.heap.size w w' := (Below.refl _ _).grown h3 (Nat.le_refl _) (fun k hk => by cases hk)
  exact ⟨_, w', _, by simp [execOp, ho, hx', hy', h1, Result.andThen], hM.gain hB i h2, hK _⟩
end
end Go.Eng
