/- What each operation does to the lists of facts. No condition beyond those stated at each rule. -/
import Derived.Test.YtgbldojgbpgjbaaGreatDoorEng
import Derived.Maps.AppendAt
namespace Go.Eng
set_option linter.unusedSimpArgs false
set_option linter.unusedVariables false
open Go.RowKit
/-- A string by its bytes. -/
abbrev str (l : List UInt8) : Value := .string ⟨l.toArray⟩
theorem str_size (l : List UInt8) : (⟨l.toArray⟩ : ByteArray).size = l.length := by simp [ByteArray.size]
theorem str_toList (l : List UInt8) : (⟨l.toArray⟩ : ByteArray).toList = l := by simp
/-- Element number i of a list of values. -/
def nth : List Value → Nat → Option Value
  | [], _ => none
  | v :: _, 0 => some v
  | _ :: r, i + 1 => nth r i
theorem nth_eq : ∀ (l : List Value) (i : Nat), nth l i = l[i]?
  | [], i => by simp [nth]
  | v :: r, 0 => by simp [nth]
  | v :: r, i + 1 => by simp [nth, nth_eq r i]
/-- The cells from off on are written over. -/
def spl : List Value → Nat → List Value → List Value
  | cs, _, [] => cs
  | [], _, _ => []
  | _ :: cs, 0, v :: vs => v :: spl cs 0 vs
  | c :: cs, k + 1, vs => c :: spl cs k vs
def isAggB (d : TypeDesc) : Bool := match d with | .struct _ | .array _ _ => true | _ => false
/-- A block that holds just these cells. -/
def IsBox (cs : List Value) (t : TypeId) (o : Obj) : Prop := o = .cells cs.toArray t (0, 0)
def allOne : List Value → Bool
  | [] => true
  | v :: r => v.oneCell' && allOne r
theorem allOne_mem : ∀ {l : List Value}, allOne l = true → ∀ u ∈ l, u.oneCell' = true
  | [], _, u, hu => by cases hu
  | v :: r, h, u, hu => by
    simp only [allOne, Bool.and_eq_true] at h
    cases hu with
    | head => exact h.1
    | tail _ hm => exact allOne_mem h.2 u hm
theorem allOne_of {l : List Value} (h : ∀ u ∈ l, u.oneCell' = true) : allOne l = true := by
  induction l with
  | nil => rfl
  | cons v r ih => simp only [allOne, Bool.and_eq_true]; exact ⟨h v (by simp), ih fun u hu => h u (by simp [hu])⟩

section
variable {P : Program} {w0 : World} {n : Nat} {ops : Array Oper} {l : List Oper} {F : FL} {L : HL} {Q : Exit → Act → World → Prop} {o : Oper} {g : Bool} {v : Value}
theorem Y_of (h : ∀ n a, Fr n F a → g = true → ∀ w, Mem w0 L w → (execOp a.eval o).run P w = .ok (.value v) w) : Y P w0 F L g o v := fun n a hF hg w hM => by
  unfold Oper.quietAt
  rw [h n a hF hg w hM]
  exact ⟨rfl, rfl⟩
theorem y_move {x : Operand} {gx : Bool} (ho : o.op = .move x) (hx : F.ev x = some (gx, v)) (hi : g = true → gx = true := by first | exact (fun _ => rfl) | exact (fun h => h) | exact (fun h => (Bool.and_eq_true_iff.1 h).1) | simp_all) : Y P w0 F L g o v :=
  Y_of fun n a hF hg w _ => by simp only [execOp, ho, hF.eval_on hx hg hi]; rfl
theorem y_assign {x : Operand} {gx : Bool} (ho : o.op = .assign x) (hx : F.ev x = some (gx, v)) (hi : g = true → gx = true := by first | exact (fun _ => rfl) | exact (fun h => h) | exact (fun h => (Bool.and_eq_true_iff.1 h).1) | simp_all) : Y P w0 F L g o v :=
  Y_of fun n a hF hg w _ => by simp only [execOp, ho, hF.eval_on hx hg hi]; rfl
theorem y_or {c y : Operand} {gc gy b1 b2 : Bool} (ho : o.op = .pick c (.const (.bool true)) y) (hc : F.ev c = some (gc, .bool b1)) (hy : F.ev y = some (gy, .bool b2))
    (hi : g = true → gc = true := by first | exact (fun _ => rfl) | exact (fun h => h) | exact (fun h => (Bool.and_eq_true_iff.1 h).1) | simp_all) (hj : g = true → b1 = false → gy = true := by first | exact (fun _ h => by rw [h]; rfl) | exact (fun h1 h2 => by rw [h1, h2]; rfl) | (intro h1 h2; simp_all)) : Y P w0 F L g o (.bool (b1 || b2)) :=
  Y_of fun n a hF hg w _ => by
    simp only [execOp, ho, hF.eval_on hc hg hi]
    cases b1 with
    | true => simp [asBool, Act.eval]
    | false => rw [hF.eval_on hy (g := g) hg (fun h => hj h rfl)]; simp [asBool]
theorem y_and {c y : Operand} {gc gy b1 b2 : Bool} (ho : o.op = .pick c y (.const (.bool false))) (hc : F.ev c = some (gc, .bool b1)) (hy : F.ev y = some (gy, .bool b2))
    (hi : g = true → gc = true := by first | exact (fun _ => rfl) | exact (fun h => h) | exact (fun h => (Bool.and_eq_true_iff.1 h).1) | simp_all) (hj : g = true → b1 = true → gy = true := by first | exact (fun _ h => by rw [h]; rfl) | exact (fun h1 h2 => by rw [h1, h2]; rfl) | (intro h1 h2; simp_all)) : Y P w0 F L g o (.bool (b1 && b2)) :=
  Y_of fun n a hF hg w _ => by
    simp only [execOp, ho, hF.eval_on hc hg hi]
    cases b1 with
    | false => simp [asBool, Act.eval]
    | true => rw [hF.eval_on hy (g := g) hg (fun h => hj h rfl)]; simp [asBool]

/-! ### Two integers -/
theorem y_bin {op : BinOp} {x y : Operand} {t t' : TypeId} {gx gy : Bool} {u u' : Value} (ho : o.op = .binOp op t x y t') (hx : F.ev x = some (gx, u)) (hy : F.ev y = some (gy, u'))
    (hr : g = true → ∀ w, (do eqGuard op t x y u u'; binOp op t u u' : Sem Value).run P w = .ok v w)
    (hi : g = true → gx = true := by first | exact (fun _ => rfl) | exact (fun h => h) | exact (fun h => (Bool.and_eq_true_iff.1 h).1) | simp_all) (hj : g = true → gy = true := by first | exact (fun _ => rfl) | exact (fun h => h) | exact (fun h => (Bool.and_eq_true_iff.1 h).1) | simp_all) : Y P w0 F L g o v :=
  Y_of fun n a hF hg w _ => by
    simp only [execOp, ho, hF.eval_on hx hg hi, hF.eval_on hy hg hj]
    simp only [Sem.run_bind, hr hg w]; rfl
variable {x y : Operand} {t t' : TypeId} {gx gy : Bool} {k : IntKind} {m p : Int}
theorem b_add (h : -9223372036854775808 ≤ m + p ∧ m + p ≤ 9223372036854775807) : ∀ w, (do eqGuard .add t x y (.int .i64 m) (.int .i64 p); binOp .add t (.int .i64 m) (.int .i64 p) : Sem Value).run P w = .ok (.int .i64 (m + p)) w := fun w => by
  simp only [eqGuard_add, binOp_add, Op.intArith]
  simp [IntWalk.i64_in _ h]
theorem b_sub (h : -9223372036854775808 ≤ m - p ∧ m - p ≤ 9223372036854775807) : ∀ w, (do eqGuard .sub t x y (.int .i64 m) (.int .i64 p); binOp .sub t (.int .i64 m) (.int .i64 p) : Sem Value).run P w = .ok (.int .i64 (m - p)) w := fun w => by
  simp only [eqGuard_sub, binOp_sub, Op.intArith]
  simp [IntWalk.i64_in _ h]
theorem b_mul (h : -9223372036854775808 ≤ m * p ∧ m * p ≤ 9223372036854775807) : ∀ w, (do eqGuard .mul t x y (.int .i64 m) (.int .i64 p); binOp .mul t (.int .i64 m) (.int .i64 p) : Sem Value).run P w = .ok (.int .i64 (m * p)) w := fun w => by
  simp only [eqGuard_mul, binOp_mul, Op.intArith]
  simp [IntWalk.i64_in _ h]
/-- whatever it comes to -/
theorem b_addw : ∀ w, (do eqGuard .add t x y (.int k m) (.int k p); binOp .add t (.int k m) (.int k p) : Sem Value).run P w = .ok (.int k (k.wrap (m + p))) w := fun w => by
  simp [eqGuard_add, binOp_add, Op.intArith]
theorem b_subw : ∀ w, (do eqGuard .sub t x y (.int k m) (.int k p); binOp .sub t (.int k m) (.int k p) : Sem Value).run P w = .ok (.int k (k.wrap (m - p))) w := fun w => by
  simp [eqGuard_sub, binOp_sub, Op.intArith]
theorem b_mulw : ∀ w, (do eqGuard .mul t x y (.int k m) (.int k p); binOp .mul t (.int k m) (.int k p) : Sem Value).run P w = .ok (.int k (k.wrap (m * p))) w := fun w => by
  simp [eqGuard_mul, binOp_mul, Op.intArith]
theorem b_addv (V : Int) (hV : m + p = V) (h : -9223372036854775808 ≤ V ∧ V ≤ 9223372036854775807) : ∀ w, (do eqGuard .add t x y (.int .i64 m) (.int .i64 p); binOp .add t (.int .i64 m) (.int .i64 p) : Sem Value).run P w = .ok (.int .i64 V) w := fun w => by
  subst hV; exact b_add h w
theorem b_subv (V : Int) (hV : m - p = V) (h : -9223372036854775808 ≤ V ∧ V ≤ 9223372036854775807) : ∀ w, (do eqGuard .sub t x y (.int .i64 m) (.int .i64 p); binOp .sub t (.int .i64 m) (.int .i64 p) : Sem Value).run P w = .ok (.int .i64 V) w := fun w => by
  subst hV; exact b_sub h w
theorem b_mulv (V : Int) (hV : m * p = V) (h : -9223372036854775808 ≤ V ∧ V ≤ 9223372036854775807) : ∀ w, (do eqGuard .mul t x y (.int .i64 m) (.int .i64 p); binOp .mul t (.int .i64 m) (.int .i64 p) : Sem Value).run P w = .ok (.int .i64 V) w := fun w => by
  subst hV; exact b_mul h w
theorem beq_dec (a b : Int) : (a == b) = decide (a = b) := by rw [Bool.eq_iff_iff]; simp
theorem b_lss : ∀ w, (do eqGuard .lss t x y (.int k m) (.int k p); binOp .lss t (.int k m) (.int k p) : Sem Value).run P w = .ok (.bool (decide (m < p))) w := fun w => by simp [eqGuard_lss, binOp_lss]
theorem b_leq : ∀ w, (do eqGuard .leq t x y (.int k m) (.int k p); binOp .leq t (.int k m) (.int k p) : Sem Value).run P w = .ok (.bool (decide (m ≤ p))) w := fun w => by simp [eqGuard_leq, binOp_leq]
theorem b_gtr : ∀ w, (do eqGuard .gtr t x y (.int k m) (.int k p); binOp .gtr t (.int k m) (.int k p) : Sem Value).run P w = .ok (.bool (decide (p < m))) w := fun w => by simp [eqGuard_gtr, binOp_gtr]
theorem b_geq : ∀ w, (do eqGuard .geq t x y (.int k m) (.int k p); binOp .geq t (.int k m) (.int k p) : Sem Value).run P w = .ok (.bool (decide (p ≤ m))) w := fun w => by simp [eqGuard_geq, binOp_geq]
theorem b_eql : ∀ w, (do eqGuard .eql t x y (.int k m) (.int k p); binOp .eql t (.int k m) (.int k p) : Sem Value).run P w = .ok (.bool (decide (m = p))) w := fun w => by simp [eqGuard_at_int, binOp_eql, beq_dec]
theorem b_neq : ∀ w, (do eqGuard .neq t x y (.int k m) (.int k p); binOp .neq t (.int k m) (.int k p) : Sem Value).run P w = .ok (.bool (!decide (m = p))) w := fun w => by simp [eqGuard_at_int, binOp_neq, bne, beq_dec]
/-! ### Two bools, two strings -/
theorem run_equalIn_bool (d : Nat) {b c : Bool} (ht : P.underlying t = some .bool) (w : World) : (Op.equalIn (d + 1) t (.bool b) (.bool c)).run P w = .ok (b == c) w := by
  simp [Op.equalIn, run_underlying ht]
theorem b_neqb {b c : Bool} (ht : P.underlying t = some .bool) : ∀ w, (do eqGuard .neq t x y (.bool b) (.bool c); binOp .neq t (.bool b) (.bool c) : Sem Value).run P w = .ok (.bool (b != c)) w := fun w => by
  simp only [eqGuard_at_bool, binOp, Op.equal, Op.maxDepth]
  simp [run_equalIn_bool 9999 ht, bne]
variable {s s' : List UInt8}
theorem lbeq_dec (a b : List UInt8) : (a == b) = decide (a = b) := by rw [Bool.eq_iff_iff]; simp
theorem b_eqls : ∀ w, (do eqGuard .eql t x y (str s) (str s'); binOp .eql t (str s) (str s') : Sem Value).run P w = .ok (.bool (decide (s = s'))) w := fun w => by
  simp only [eqGuard_at_string, binOp_string_eql, str_toList, lbeq_dec]; rfl
theorem b_neqs : ∀ w, (do eqGuard .neq t x y (str s) (str s'); binOp .neq t (str s) (str s') : Sem Value).run P w = .ok (.bool (!decide (s = s'))) w := fun w => by
  simp only [eqGuard_at_string, binOp_string_neq, str_toList, lbeq_dec]; rfl
theorem b_adds (h : s.length + s'.length ≤ 9223372036854775807) : ∀ w, (do eqGuard .add t x y (str s) (str s'); binOp .add t (str s) (str s') : Sem Value).run P w = .ok (str (s ++ s')) w := fun w => by
  simp only [eqGuard_add, binOp_string_add, Sem.run_bind, Sem.run_pure, Result.andThen_ok]
  rw [run_string_add_sum w _ _ (by simpa [ByteArray.size] using h), ByteArray.mk_append_mk]

theorem y_not {b : Bool} (ho : o.op = .unOp .not t x) (hx : F.ev x = some (gx, .bool b)) (hi : g = true → gx = true := by first | exact (fun _ => rfl) | exact (fun h => h) | exact (fun h => (Bool.and_eq_true_iff.1 h).1) | simp_all) : Y P w0 F L g o (.bool (!b)) :=
  Y_of fun n a hF hg w _ => by simp only [execOp, ho, hF.eval_on hx hg hi, Op.unary]; rfl
theorem y_extract {vs : Array Value} {i : Nat} (ho : o.op = .extract x i) (hx : F.ev x = some (gx, .tuple vs)) (hv : vs[i]? = some v) (hi : g = true → gx = true := by first | exact (fun _ => rfl) | exact (fun h => h) | exact (fun h => (Bool.and_eq_true_iff.1 h).1) | simp_all) : Y P w0 F L g o v :=
  Y_of fun n a hF hg w _ => by simp only [execOp, ho, hF.eval_on hx hg hi, Instr.extract, hv]; rfl
theorem y_conv {src dst : TypeId} {k' : IntKind} (ho : o.op = .convert src dst x) (hx : F.ev x = some (gx, .int k m)) (hs : P.underlying src = some (.int k)) (hd : P.underlying dst = some (.int k'))
    (hi : g = true → gx = true := by first | exact (fun _ => rfl) | exact (fun h => h) | exact (fun h => (Bool.and_eq_true_iff.1 h).1) | simp_all) : Y P w0 F L g o (.int k' (k'.wrap m)) :=
  Y_of fun n a hF hg w _ => by
    simp only [execOp, ho, hF.eval_on hx hg hi]
    have h : (convert src dst (.int k m)).run P w = .ok (.int k' (k'.wrap m)) w := by simp [convert, run_underlying hs, run_underlying hd, Conv.intToInt]
    simp only [Sem.run_bind, h]; rfl
theorem wrap_in (k : IntKind) (m : Int) (h : k.min ≤ m ∧ m ≤ k.max) : k.wrap m = m := by
  cases k
  · exact IntWalk.i8_in _ (by simpa [IntKind.min, IntKind.max, IntKind.signed, IntKind.bits] using h)
  · exact IntWalk.i16_in _ (by simpa [IntKind.min, IntKind.max, IntKind.signed, IntKind.bits] using h)
  · exact IntWalk.i32_in _ (by simpa [IntKind.min, IntKind.max, IntKind.signed, IntKind.bits] using h)
  · exact IntWalk.i64_in _ (by simpa [IntKind.min, IntKind.max, IntKind.signed, IntKind.bits] using h)
  · exact IntWalk.u8_in _ (by have h1 := h.1; have h2 := h.2; simp [IntKind.min, IntKind.max, IntKind.signed, IntKind.bits] at h1 h2; omega)
  · exact IntWalk.u16_in _ (by have h1 := h.1; have h2 := h.2; simp [IntKind.min, IntKind.max, IntKind.signed, IntKind.bits] at h1 h2; omega)
  · exact IntWalk.u32_in _ (by have h1 := h.1; have h2 := h.2; simp [IntKind.min, IntKind.max, IntKind.signed, IntKind.bits] at h1 h2; omega)
  · exact IntWalk.u64_in _ (by have h1 := h.1; have h2 := h.2; simp [IntKind.min, IntKind.max, IntKind.signed, IntKind.bits] at h1 h2; omega)
theorem y_conv64 {src dst : TypeId} (ho : o.op = .convert src dst x) (hx : F.ev x = some (gx, .int k m)) (hs : P.underlying src = some (.int k)) (hd : P.underlying dst = some (.int .i64)) (hm : g = true → -9223372036854775808 ≤ m ∧ m ≤ 9223372036854775807)
    (hi : g = true → gx = true := by first | exact (fun _ => rfl) | exact (fun h => h) | exact (fun h => (Bool.and_eq_true_iff.1 h).1) | simp_all) : Y P w0 F L g o (.int .i64 m) := fun n a hF hg => by
  have := y_conv (L := L) (w0 := w0) ho hx hs hd hi n a hF hg
  rwa [IntWalk.i64_in _ (hm hg)] at this
theorem y_len_str (ho : o.op = .call { callee := .builtin .len, args := #[x], argTypes := #[t] }) (hx : F.ev x = some (gx, str s)) (ht : P.underlying t = some .string) (hi : g = true → gx = true := by first | exact (fun _ => rfl) | exact (fun h => h) | exact (fun h => (Bool.and_eq_true_iff.1 h).1) | simp_all) : Y P w0 F L g o (.int .i64 s.length) :=
  Y_of fun n a hF hg w _ => by
    simp only [execOp, ho, resolve, invoke, builtin, List.map_toArray, List.map_cons, List.map_nil, hF.eval_on hx hg hi]
    have h : ∀ ty, (Builtin.len_ #[t] ty #[str s]).run P w = .ok (.int .i64 s.length) w := fun ty => by rw [run_len_string w t ty _ ht, str_size]; rfl
    simp only [Sem.run_bind, Sem.run_pure, Result.andThen_ok, h]
theorem y_len_slice {A : Option Addr} {q c : Nat} {e : TypeId} (ho : o.op = .call { callee := .builtin .len, args := #[x], argTypes := #[t] }) (hx : F.ev x = some (gx, .slice A q c)) (ht : P.underlying t = some (.slice e)) (hi : g = true → gx = true := by first | exact (fun _ => rfl) | exact (fun h => h) | exact (fun h => (Bool.and_eq_true_iff.1 h).1) | simp_all) : Y P w0 F L g o (.int .i64 q) :=
  Y_of fun n a hF hg w _ => by
    simp only [execOp, ho, resolve, invoke, builtin, List.map_toArray, List.map_cons, List.map_nil, hF.eval_on hx hg hi]
    have h : ∀ ty, (Builtin.len_ #[t] ty #[.slice A q c]).run P w = .ok (.int .i64 q) w := fun ty => by simp [Builtin.len_, run_underlying ht, goInt]
    simp only [Sem.run_bind, Sem.run_pure, Result.andThen_ok, h]
theorem y_index_str {j : Nat} (ho : o.op = .index t x y) (hx : F.ev x = some (gx, str s)) (hy : F.ev y = some (gy, .int k (j : Int))) (ht : P.underlying t = some .string) (hj : g = true → j < s.length)
    (hi : g = true → gx = true := by first | exact (fun _ => rfl) | exact (fun h => h) | exact (fun h => (Bool.and_eq_true_iff.1 h).1) | simp_all) (hi' : g = true → gy = true := by first | exact (fun _ => rfl) | exact (fun h => h) | exact (fun h => (Bool.and_eq_true_iff.1 h).1) | simp_all) : Y P w0 F L g o (.int .u8 ((s.getD j 0).toNat : Int)) :=
  Y_of fun n a hF hg w _ => by
    simp only [execOp, ho, hF.eval_on hx hg hi, hF.eval_on hy hg hi']
    have hl := hj hg
    have h : (Instr.index t (str s) (.int k (j : Int))).run P w = .ok (.int .u8 ((s.getD j 0).toNat : Int)) w := by
      rw [run_index_string w t _ k _ ht, dif_pos ⟨by omega, by rw [str_size]; omega⟩]
      congr 3
      have e : (s.getD j 0) = s[j] := by simp [List.getD, hl]
      rw [e]
      rfl
    simp only [Sem.run_bind, h]; rfl

/-! ### Memory -/
theorem run_field {s b : TypeId} {fs : Array Field} {f : Field} {i off : Nat} (h : P.underlying s = some (.struct fs)) (hf : fs[i]? = some f) (ho : f.offset = off) (hz : (P.info? f.type).map (·.size) = some b) (hb : b ≠ 0) (a : Addr) (w : World) :
    (Instr.fieldAt s (.pointer (some a)) i).run P w = .ok (.pointer (some (a.add off))) w := by
  subst ho
  cases hq : P.info? f.type with
  | none => simp [hq] at hz
  | some j =>
    simp only [hq, Option.map_some, Option.some.injEq] at hz
    simp [Instr.fieldAt, run_underlying h, hf, Instr.sureAddr, fieldPlace, sizeOf, typeInfo, hq, hz, hb]
theorem y_fieldAddr {i off : Nat} {a : Addr} (ho : o.op = .fieldAddr t x i) (hx : F.ev x = some (gx, .pointer (some a))) (hf : ∀ a w, (Instr.fieldAt t (.pointer (some a)) i).run P w = .ok (.pointer (some (a.add off))) w)
    (hi : g = true → gx = true := by first | exact (fun _ => rfl) | exact (fun h => h) | exact (fun h => (Bool.and_eq_true_iff.1 h).1) | simp_all) : Y P w0 F L g o (.pointer (some (a.add off))) :=
  Y_of fun n a' hF hg w _ => by simp only [execOp, ho, hF.eval_on hx hg hi, Sem.run_bind, hf]; rfl
theorem cell_of_box {w : World} {b off : Nat} {cs : List Value} {ty : TypeId} {ob : Obj} (h : w.heap[b]? = some ob) (hb : IsBox cs ty ob) : w.cell? ⟨b, off, none⟩ = nth cs off := by
  unfold IsBox at hb; subst hb
  rw [cell_of_row w b off _ ty (0, 0) h, nth_eq]; simp
theorem run_loadVar1 {ty : TypeId} {d : TypeDesc} (hu : P.underlying ty = some d) (hd : isAggB d = false) (w : World) {a : Addr} (h : w.cell? a = some v) : (Instr.loadAt ty (.pointer (some a))).run P w = .ok v w := by
  have hagg : (isAgg ty).run P w = .ok false w := by
    unfold isAgg
    rw [Sem.run_bind, run_underlying hu w]
    cases d <;> simp_all [isAggB]
  simp [Instr.loadAt, Instr.sureAddr, loadVar, Sem.run_bind, hagg, h]
theorem run_loadVarA {ty : TypeId} {d : TypeDesc} {cs : List Value} (hu : P.underlying ty = some d) (hd : isAggB d = true) (hz : (P.info? ty).map (·.size) = some cs.length) (w : World) {a : Addr}
    (h : ∀ j v, cs[j]? = some v → w.cell? (a.add j) = some v) : (Instr.loadAt ty (.pointer (some a))).run P w = .ok (.agg cs.toArray) w := by
  have hl := run_loadCells_list (P := P) w a cs h
  have hagg : (isAgg ty).run P w = .ok true w := by
    unfold isAgg
    rw [Sem.run_bind, run_underlying hu w]
    cases d <;> simp_all [isAggB]
  cases hq : P.info? ty with
  | none => simp [hq] at hz
  | some i =>
    have hs : i.size = cs.length := by simpa [hq] using hz
    simp [Instr.loadAt, Instr.sureAddr, loadVar, Sem.run_bind, hagg, sizeOf, typeInfo, hq, hs, hl]
theorem add_zero_off (b off j : Nat) : (⟨b, off, none⟩ : Addr).add j = ⟨b, off + j, none⟩ := by unfold Addr.add; split <;> simp_all
/-- A load of one cell out of a box of the call's own. -/
theorem y_load (i : Nat) {b off : Nat} {cs : List Value} {ty tb : TypeId} {d : TypeDesc} (ho : o.op = .load ty x) (hx : F.ev x = some (gx, .pointer (some ⟨b, off, none⟩))) (hL : L.get i = some (.blk b (IsBox cs tb))) (hv : nth cs off = some v)
    (hu : P.underlying ty = some d) (hd : isAggB d = false) (hi : g = true → gx = true := by first | exact (fun _ => rfl) | exact (fun h => h) | exact (fun h => (Bool.and_eq_true_iff.1 h).1) | simp_all) : Y P w0 F L g o v :=
  Y_of fun n a hF hg w hM => by
    obtain ⟨_, ob, h1, h2⟩ := hM.sat i _ hL
    simp only [execOp, ho, hF.eval_on hx hg hi, Sem.run_bind, run_loadVar1 hu hd w ((cell_of_box h1 h2).trans hv)]; rfl
/-- .. of a whole struct. -/
theorem y_loadA (i : Nat) {b : Nat} {cs : List Value} {ty tb : TypeId} {d : TypeDesc} (ho : o.op = .load ty x) (hx : F.ev x = some (gx, .pointer (some ⟨b, 0, none⟩))) (hL : L.get i = some (.blk b (IsBox cs tb)))
    (hu : P.underlying ty = some d) (hd : isAggB d = true) (hz : (P.info? ty).map (·.size) = some cs.length) (hi : g = true → gx = true := by first | exact (fun _ => rfl) | exact (fun h => h) | exact (fun h => (Bool.and_eq_true_iff.1 h).1) | simp_all) : Y P w0 F L g o (.agg cs.toArray) :=
  Y_of fun n a hF hg w hM => by
    obtain ⟨_, ob, h1, h2⟩ := hM.sat i _ hL
    simp only [execOp, ho, hF.eval_on hx hg hi, Sem.run_bind, run_loadVarA hu hd hz w (fun j u hu' => by rw [add_zero_off, Nat.zero_add, cell_of_box h1 h2, nth_eq]; exact hu')]; rfl

/-! ### Slices that lie below the call's own blocks -/
def SlR (w0 : World) (size : Nat) (A : Option Addr) (q : Nat) (xs : List Value) : Prop :=
  xs.length = q * size ∧ (0 < q → ∃ ad, A = some ad ∧ ad.block < w0.heap.size ∧ ∀ j u, xs[j]? = some u → w0.cell? (ad.add j) = some u)
theorem block_of_add (a : Addr) (k : Nat) : (a.add k).block = a.block := by unfold Addr.add; split <;> rfl
theorem add_of_add (a : Addr) (i j : Nat) : (a.add i).add j = a.add (i + j) := by
  unfold Addr.add
  by_cases hi : i = 0 <;> by_cases hj : j = 0 <;> simp [hi, hj, Nat.add_assoc]
theorem SlR.below {w w' : World} {size q : Nat} {A : Option Addr} {xs : List Value} (h : SlR w size A q xs) (hb : Below w.heap.size w w') : SlR w' size A q xs :=
  ⟨h.1, fun hq => by
    obtain ⟨ad, e, hlt, hc⟩ := h.2 hq
    exact ⟨ad, e, Nat.lt_of_lt_of_le hlt hb.size, fun j u hu => (hb.cell (by rw [block_of_add]; exact hlt)).trans (hc j u hu)⟩⟩
theorem SlR.mem {w : World} {size q : Nat} {A : Option Addr} {xs : List Value} (h : SlR w0 size A q xs) (hM : Mem w0 L w) : SlR w size A q xs := h.below hM.below
/-- where element number k lies -/
def at_ (A : Option Addr) (k size : Nat) : Option Addr := A.map (·.add (k * size))
theorem y_indexAddr {A : Option Addr} {q c j size : Nat} {e : TypeId} (ho : o.op = .indexAddr t x y) (hx : F.ev x = some (gx, .slice A q c)) (hy : F.ev y = some (gy, .int k (j : Int))) (ht : P.underlying t = some (.slice e)) (hz : (P.info? e).map (·.size) = some size)
    (hA : g = true → A.isSome = true) (hj : g = true → j < q)
    (hi : g = true → gx = true := by first | exact (fun _ => rfl) | exact (fun h => h) | exact (fun h => (Bool.and_eq_true_iff.1 h).1) | simp_all) (hi' : g = true → gy = true := by first | exact (fun _ => rfl) | exact (fun h => h) | exact (fun h => (Bool.and_eq_true_iff.1 h).1) | simp_all) : Y P w0 F L g o (.pointer (at_ A j size)) :=
  Y_of fun n a hF hg w _ => by
    have h1 := hj hg
    obtain ⟨ad, rfl⟩ := Option.isSome_iff_exists.1 (hA hg)
    cases hq : P.info? e with
    | none => simp [hq] at hz
    | some i =>
      simp only [hq, Option.map_some, Option.some.injEq] at hz
      have h2 : 0 ≤ (j : Int) ∧ (j : Int) < (q : Int) := ⟨by omega, by omega⟩
      simp [execOp, ho, hF.eval_on hx hg hi, hF.eval_on hy hg hi', Instr.indexAt, asIntOf, run_underlying ht, h2, sizeOf, typeInfo, hq, hz, at_]
      intro h; omega
theorem SlR.isSome {size q j : Nat} {A : Option Addr} {xs : List Value} (h : SlR w0 size A q xs) (hj : j < q) : A.isSome = true := by
  obtain ⟨ad, e, _⟩ := h.2 (by omega)
  rw [e]; rfl
theorem y_load_el {A : Option Addr} {q j : Nat} {ty : TypeId} {xs : List Value} {d : TypeDesc} (ho : o.op = .load ty x) (hx : F.ev x = some (gx, .pointer (at_ A j 1))) (hs : SlR w0 1 A q xs) (hj : g = true → j < q) (hv : g = true → xs[j]? = some v)
    (hu : P.underlying ty = some d) (hd : isAggB d = false) (hi : g = true → gx = true := by first | exact (fun _ => rfl) | exact (fun h => h) | exact (fun h => (Bool.and_eq_true_iff.1 h).1) | simp_all) : Y P w0 F L g o v :=
  Y_of fun n a hF hg w hM => by
    obtain ⟨ad, rfl, hlt, hc⟩ := (hs.mem hM).2 (by have := hj hg; omega)
    have h1 := hc j v (hv hg)
    simp only [execOp, ho, hF.eval_on hx hg hi, at_, Option.map_some, Sem.run_bind, Nat.mul_one, run_loadVar1 hu hd w h1]; rfl
/-- .. of a struct of 'size' cells. -/
theorem y_load_elA {A : Option Addr} {q j size : Nat} {ty : TypeId} {xs cs : List Value} {d : TypeDesc} (ho : o.op = .load ty x) (hx : F.ev x = some (gx, .pointer (at_ A j size))) (hs : SlR w0 size A q xs) (hj : g = true → j < q)
    (hv : g = true → ∀ i u, cs[i]? = some u → xs[j * size + i]? = some u)
    (hu : P.underlying ty = some d) (hd : isAggB d = true) (hz : (P.info? ty).map (·.size) = some cs.length) (hi : g = true → gx = true := by first | exact (fun _ => rfl) | exact (fun h => h) | exact (fun h => (Bool.and_eq_true_iff.1 h).1) | simp_all) : Y P w0 F L g o (.agg cs.toArray) :=
  Y_of fun n a hF hg w hM => by
    obtain ⟨ad, rfl, hlt, hc⟩ := (hs.mem hM).2 (by have := hj hg; omega)
    simp only [execOp, ho, hF.eval_on hx hg hi, at_, Option.map_some, Sem.run_bind, run_loadVarA hu hd hz w (fun i u hu' => by rw [add_of_add]; exact hc _ u (hv hg i u hu'))]; rfl
/-- A field of element number j, without the element's being loaded whole: 'l[j].f'. -/
theorem y_fieldEl {A : Option Addr} {q j size off i : Nat} {xs : List Value} (ho : o.op = .fieldAddr t x i) (hx : F.ev x = some (gx, .pointer (at_ A j size))) (hs : SlR w0 size A q xs) (hj : g = true → j < q)
    (hf : ∀ a w, (Instr.fieldAt t (.pointer (some a)) i).run P w = .ok (.pointer (some (a.add off))) w)
    (hi : g = true → gx = true := by first | exact (fun _ => rfl) | exact (fun h => h) | exact (fun h => (Bool.and_eq_true_iff.1 h).1) | simp_all) : Y P w0 F L g o (.pointer (at_ A (j * size + off) 1)) :=
  Y_of fun n a' hF hg w _ => by
    obtain ⟨ad, rfl, _⟩ := hs.2 (by have := hj hg; omega)
    simp only [execOp, ho, hF.eval_on hx hg hi, at_, Option.map_some, Sem.run_bind, hf, add_of_add, Nat.mul_one]; rfl
theorem y_load_fieldEl {A : Option Addr} {q j size off : Nat} {ty : TypeId} {xs : List Value} {d : TypeDesc} (ho : o.op = .load ty x) (hx : F.ev x = some (gx, .pointer (at_ A (j * size + off) 1))) (hs : SlR w0 size A q xs) (hj : g = true → j < q) (hv : g = true → xs[j * size + off]? = some v)
    (hu : P.underlying ty = some d) (hd : isAggB d = false) (hi : g = true → gx = true := by first | exact (fun _ => rfl) | exact (fun h => h) | exact (fun h => (Bool.and_eq_true_iff.1 h).1) | simp_all) : Y P w0 F L g o v :=
  Y_of fun n a hF hg w hM => by
    obtain ⟨ad, rfl, hlt, hc⟩ := (hs.mem hM).2 (by have := hj hg; omega)
    have h1 := hc _ v (hv hg)
    simp only [execOp, ho, hF.eval_on hx hg hi, at_, Option.map_some, Sem.run_bind, Nat.mul_one, run_loadVar1 hu hd w h1]; rfl
/-- 'l[:j]', 'l[i:]': an argument's slice cut; i, j: Nat. -/
theorem y_slice {A : Option Addr} {q c lo hi : Nat} {e : TypeId} {size : Nat} {vl vh : Option Operand} (ho : o.op = .slice t x vl vh none) (hx : F.ev x = some (true, .slice A q c)) (ht : P.underlying t = some (.slice e)) (hz : (P.info? e).map (·.size) = some size)
    (hl : (vl = none ∧ lo = 0) ∨ ∃ y kl, vl = some y ∧ F.ev y = some (true, .int kl (lo : Int))) (hh : (vh = none ∧ hi = q) ∨ ∃ y kl, vh = some y ∧ F.ev y = some (true, .int kl (hi : Int)))
    (h1 : lo ≤ hi) (h2 : hi ≤ q) (h3 : q ≤ c) : Y P w0 F L g o (.slice (if c = lo then A else A.map (·.add (lo * size))) (hi - lo) (c - lo)) :=
  Y_of fun n a hF hg w _ => by
    cases hq : P.info? e with
    | none => simp [hq] at hz
    | some i =>
      simp only [hq, Option.map_some, Option.some.injEq] at hz
      have e1 : (hi : Int) ≤ (c : Int) := by omega
      have e2 : (lo : Int) ≤ (hi : Int) := by omega
      have ex : a.eval x = .slice A q c := by have := hF.eval hx; simpa using this
      rcases hl with ⟨rfl, rfl⟩ | ⟨y, kl, rfl, hy⟩ <;> rcases hh with ⟨rfl, rfl⟩ | ⟨y', kl', rfl, hy'⟩
      · simp [execOp, ho, ex, Instr.sliceAt, Instr.slice, Instr.sliceBounds, run_underlying ht, sizeOf, typeInfo, hq, hz]
      · have ey' : a.eval y' = .int kl' (hi : Int) := by have := hF.eval hy'; simpa using this
        simp [execOp, ho, ex, ey', Instr.sliceAt, Instr.slice, Instr.sliceBounds, Instr.sliceBound, asIntOf, run_underlying ht, sizeOf, typeInfo, hq, hz, e1]
        intro h; omega
      · have ey : a.eval y = .int kl (lo : Int) := by have := hF.eval hy; simpa using this
        simp [execOp, ho, ex, ey, Instr.sliceAt, Instr.slice, Instr.sliceBounds, Instr.sliceBound, asIntOf, run_underlying ht, sizeOf, typeInfo, hq, hz, e2, h1]
      · have ey' : a.eval y' = .int kl' (hi : Int) := by have := hF.eval hy'; simpa using this
        have ey : a.eval y = .int kl (lo : Int) := by have := hF.eval hy; simpa using this
        simp [execOp, ho, ex, ey, ey', Instr.sliceAt, Instr.slice, Instr.sliceBounds, Instr.sliceBound, asIntOf, run_underlying ht, sizeOf, typeInfo, hq, hz, e1, e2, h1]
        intro h; omega
theorem SlR.cut {size q lo hi c : Nat} {A : Option Addr} {xs : List Value} (h : SlR w0 size A q xs) (h1 : lo ≤ hi) (h2 : hi ≤ q) (h3 : q ≤ c) :
    SlR w0 size (if c = lo then A else A.map (·.add (lo * size))) (hi - lo) ((xs.drop (lo * size)).take ((hi - lo) * size)) := by
  have hle : hi * size ≤ q * size := Nat.mul_le_mul_right size h2
  refine ⟨by rw [List.length_take, List.length_drop, h.1, Nat.sub_mul]; omega, fun hq => ?_⟩
  obtain ⟨ad, rfl, hb, hc⟩ := h.2 (by omega)
  rw [if_neg (by omega)]
  refine ⟨ad.add (lo * size), rfl, by rw [block_of_add]; exact hb, fun j u hu => ?_⟩
  rw [add_of_add]
  rw [List.getElem?_take] at hu
  split at hu
  · rw [List.getElem?_drop] at hu; exact hc _ u hu
  · cases hu
end
end Go.Eng
