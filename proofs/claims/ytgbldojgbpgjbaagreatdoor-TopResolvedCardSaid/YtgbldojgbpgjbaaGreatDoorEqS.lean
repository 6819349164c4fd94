/- Structs compared, whose fields are strings, integers and bools. No condition. -/
import Derived.Test.YtgbldojgbpgjbaaGreatDoorStrs
import Derived.Laws.StructEq
namespace Go.Eng
set_option linter.unusedSimpArgs false
set_option linter.unusedVariables false
set_option linter.unusedSectionVars false
open Go.RowKit
section
variable {P : Program} {t : TypeId} {x y : Operand}
def cmp1 : TypeDesc → Value → Value → Option Bool
  | .int _, .int k a, .int k' b => if k = k' then some (decide (a = b)) else none
  | .bool, .bool a, .bool b => some (a == b)
  | .string, .string a, .string b => some (decide (a.data.toList = b.data.toList))
  | _, _, _ => none
theorem run_cmp1 {d : TypeDesc} {a b : Value} {r : Bool} (n : Nat) (hu : P.underlying t = some d) (h : cmp1 d a b = some r) (w : World) : (Op.equalIn (n + 1) t a b).run P w = .ok r w := by
  unfold cmp1 at h
  split at h
  · split at h
    · rename_i hk
      subst hk
      simp only [Option.some.injEq] at h
      subst h
      rw [run_equalIn_int w n t _ _ _ _ hu, beq_dec]
    · cases h
  · simp only [Option.some.injEq] at h
    subst h
    exact run_equalIn_bool n hu w
  · rename_i s1 s2
    simp only [Option.some.injEq] at h
    subst h
    rw [run_equalIn_string w n t _ _ hu, ByteArray.toList_eq, ByteArray.toList_eq, lbeq_dec]
  · cases h
theorem run_part1 {d : TypeDesc} {xs : Array Value} {off : Nat} {v : Value} (hu : P.underlying t = some d) (hd : isAggB d = false) (hx : xs[off]? = some v) (w : World) : (part t xs off).run P w = .ok v w := by
  have hagg : (isAgg t).run P w = .ok false w := by
    unfold isAgg
    rw [Sem.run_bind, run_underlying hu w]
    cases d <;> simp_all [isAggB]
  unfold part
  rw [Sem.run_bind, hagg]
  simp [hx]
def EqFs (P : Program) (xs ys : List Value) : List Field → List Bool → Prop
  | [], [] => True
  | f :: fs, r :: rs => f.name ≠ "_" ∧ (∃ d, P.underlying f.type = some d ∧ isAggB d = false ∧ ∃ a b, nth xs f.offset = some a ∧ nth ys f.offset = some b ∧ cmp1 d a b = some r) ∧ EqFs P xs ys fs rs
  | _, _ => False
theorem run_eqFs {xs ys : List Value} (n : Nat) (w : World) : ∀ (fs : List Field) (rs : List Bool), EqFs P xs ys fs rs → (Op.eqFields (n + 1) xs.toArray ys.toArray fs).run P w = .ok (rs.all id) w
  | [], [], _ => rfl
  | f :: fs, r :: rs, h => by
    obtain ⟨hn, ⟨d, hu, hd, a, b, ha, hb, hc⟩, hr⟩ := h
    rw [nth_eq] at ha hb
    have p1 := run_part1 (P := P) (xs := xs.toArray) hu hd (by simpa using ha) w
    have p2 := run_part1 (P := P) (xs := ys.toArray) hu hd (by simpa using hb) w
    have p3 := run_cmp1 (P := P) n hu hc w
    unfold Op.eqFields
    rw [if_pos hn]
    simp only [Sem.run_bind, p1, p2, p3, Result.andThen_ok]
    cases r with
    | true => simpa using run_eqFs n w fs rs hr
    | false => simp
  | [], _ :: _, h => h.elim
  | _ :: _, [], h => h.elim
theorem run_eqA {fs : Array Field} {xs ys : List Value} {rs : List Bool} (hu : P.underlying t = some (.struct fs)) (hp : P.stoodInHeld t = false) (he : EqFs P xs ys fs.toList rs) (w : World) : (Op.equalIn 10000 t (.agg xs.toArray) (.agg ys.toArray)).run P w = .ok (rs.all id) w := by
  have hfs : P.fieldsOf t = fs := by simp [Program.fieldsOf, hu]
  rw [show (10000 : Nat) = 9999 + 1 from rfl, run_equalIn_agg w 9999 t _ _ (by rw [hfs]; exact hu) hp, hfs]
  exact run_eqFs 9998 w fs.toList rs he
theorem b_neqA {fs : Array Field} {xs ys : List Value} {rs : List Bool} (hu : P.underlying t = some (.struct fs)) (hp : P.stoodInHeld t = false) (hg : P.eqGuardType P.depth t = false) (he : EqFs P xs ys fs.toList rs) :
    ∀ w, (do eqGuard .neq t x y (.agg xs.toArray) (.agg ys.toArray); binOp .neq t (.agg xs.toArray) (.agg ys.toArray) : Sem Value).run P w = .ok (.bool (!(rs.all id))) w := fun w => by
  simp only [Sem.run_bind, run_eqGuard_agg w .neq t x y _ _ hg, Result.andThen_ok, run_neq_struct w t, run_eqA hu hp he w]
theorem b_eqlA {fs : Array Field} {xs ys : List Value} {rs : List Bool} (hu : P.underlying t = some (.struct fs)) (hp : P.stoodInHeld t = false) (hg : P.eqGuardType P.depth t = false) (he : EqFs P xs ys fs.toList rs) :
    ∀ w, (do eqGuard .eql t x y (.agg xs.toArray) (.agg ys.toArray); binOp .eql t (.agg xs.toArray) (.agg ys.toArray) : Sem Value).run P w = .ok (.bool (rs.all id)) w := fun w => by
  simp only [Sem.run_bind, run_eqGuard_agg w .eql t x y _ _ hg, Result.andThen_ok, run_eql_struct w t, run_eqA hu hp he w]
/-- two lists, element by element -/
def eqLB {α : Type} (e : α → α → Bool) : List α → List α → Bool
  | [], [] => true
  | a :: r, b :: s => e a b && eqLB e r s
  | _, _ => false
theorem eqLB_len {α : Type} {e : α → α → Bool} : ∀ l m : List α, l.length ≠ m.length → eqLB e l m = false
  | [], [], h => absurd rfl h
  | a :: r, b :: s, h => by simp only [eqLB]; rw [eqLB_len r s (by simpa using h), Bool.and_false]
  | [], _ :: _, _ => rfl
  | _ :: _, [], _ => rfl
end
end Go.Eng
