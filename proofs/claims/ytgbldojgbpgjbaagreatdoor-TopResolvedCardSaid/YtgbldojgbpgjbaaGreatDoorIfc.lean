/- Two nil interface values compared, one of them the literal nil; an operation whose guard does not hold is left out. No condition. -/
import Derived.Test.YtgbldojgbpgjbaaGreatDoorMany
import Derived.Test.YtgbldojgbpgjbaaGreatDoorGrd
namespace Go.Eng
set_option linter.unusedSimpArgs false
set_option linter.unusedVariables false
open Go.RowKit
section
variable {P : Program} {x : Operand} {t : TypeId}
theorem run_equalIn_ni (k : Nat) {ms : Array (String × TypeId)} (ht : P.underlying t = some (.interface ms)) (w : World) : (Op.equalIn (k + 1) t .nilIface .nilIface).run P w = .ok true w := by
  simp [Op.equalIn, run_underlying ht]
theorem eqGuard_ni {op : BinOp} {v : Value} : eqGuard op t x (.const v) .nilIface .nilIface = pure () := by
  cases op <;> cases x <;> rfl
theorem b_eqlII {ms : Array (String × TypeId)} {v : Value} (ht : P.underlying t = some (.interface ms)) : ∀ w, (do eqGuard .eql t x (.const v) .nilIface .nilIface; binOp .eql t .nilIface .nilIface : Sem Value).run P w = .ok (.bool true) w := fun w => by
  simp only [eqGuard_ni, binOp, Op.equal, Op.maxDepth]
  simp [run_equalIn_ni 9999 ht]
theorem b_neqII {ms : Array (String × TypeId)} {v : Value} (ht : P.underlying t = some (.interface ms)) : ∀ w, (do eqGuard .neq t x (.const v) .nilIface .nilIface; binOp .neq t .nilIface .nilIface : Sem Value).run P w = .ok (.bool false) w := fun w => by
  simp only [eqGuard_ni, binOp, Op.equal, Op.maxDepth]
  simp [run_equalIn_ni 9999 ht]
end
section
variable {P : Program} {w0 : World} {n : Nat} {ops : Array Oper} {l : List Oper} {F : FL} {L : HL} {Q : Exit → Act → World → Prop} {o : Oper} {g : Bool} {v : Value} {x y c : Operand} {gc gx : Bool}
theorem S_skip (d : Nat) {j s : Nat} {want gs b : Bool} {oj : Oper} (hd : o.dst = some d) (hdn : Nat.blt d n = true) (hg : o.guard = some (j, want)) (hj : ops[j]? = some oj) (hs : oj.dst = some s) (hv : F.get s = some (gs, .bool b)) (ht : (gs && (b == want)) = false)
    (h : S P w0 n ops l ((d, false, .tuple #[]) :: F) L Q) : S P w0 n ops (o :: l) F L Q := by
  intro a w hF hM
  have h2 := G_at (ops := ops) (F := F) (o := o) hg hj hs hv n a hF
  rw [ht] at h2
  unfold wpList
  rw [if_neg (by rw [h2]; exact Bool.false_ne_true)]
  have := hF.put false (.tuple #[]) hdn
  rw [hd]
  exact h _ _ this hM
theorem y_pickT (ho : o.op = .pick c x y) (hc : F.ev c = some (true, .bool true)) (hx : F.ev x = some (true, v)) : Y P w0 F L true o v :=
  Y_of fun n a hF hg w _ => by
    have hc' : a.eval c = .bool true := by have := hF.eval hc; simpa using this
    have hx' : a.eval x = v := by have := hF.eval hx; simpa using this
    simp only [execOp, ho, hc']
    simp [asBool, hx', Result.andThen]
end
end Go.Eng
