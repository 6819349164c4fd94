/- Operations that make or turn memory, and calls. No condition beyond those stated at each rule. -/
import Derived.Test.YtgbldojgbpgjbaaGreatDoorOps
namespace Go.Eng
set_option linter.unusedSimpArgs false
set_option linter.unusedVariables false
open Go.RowKit
section
variable {P : Program} {w0 : World} {n : Nat} {ops : Array Oper} {l : List Oper} {F : FL} {L : HL} {Q : Exit → Act → World → Prop} {o : Oper} {g : Bool} {v : Value} {x y : Operand} {t t' : TypeId} {gx gy : Bool}
theorem S_loud (d : Nat) (hg : o.guard = none) (hd : o.dst = some d) (hdn : Nat.blt d n = true)
    (h : ∀ a w, Fr n F a → Mem w0 L w → ∃ v w' L', (execOp a.eval o).run P w = .ok (.value v) w' ∧ Mem w0 L' w' ∧ S P w0 n ops l ((d, true, v) :: F) L' Q) : S P w0 n ops (o :: l) F L Q := by
  intro a w hF hM
  obtain ⟨v, w', L', hr, hM', hS⟩ := h a w hF hM
  refine wpList_plain hg fun K hK => ?_
  unfold Oper.wp
  rw [hr]
  refine hK _ _ (hS _ _ ?_ hM')
  rw [hd]
  exact hF.put true v hdn
theorem S_mute (hg : o.guard = none) (hd : o.dst = none)
    (h : ∀ a w, Fr n F a → Mem w0 L w → ∃ w' L', (execOp a.eval o).run P w = .ok .skip w' ∧ Mem w0 L' w' ∧ S P w0 n ops l F L' Q) : S P w0 n ops (o :: l) F L Q := by
  intro a w hF hM
  obtain ⟨w', L', hr, hM', hS⟩ := h a w hF hM
  refine wpList_plain hg fun K hK => ?_
  unfold Oper.wp
  rw [hr]
  refine hK _ _ (hS _ _ ?_ hM')
  rw [hd]
  exact hF

theorem S_alloc (d i : Nat) {ty : TypeId} {z : Value} (hg : o.guard = none) (hd : o.dst = some d) (hdn : Nat.blt d n = true) (ho : o.op = .alloc ty) (hz : ∀ w, (zeroValue ty).run P w = .ok z w)
    (hK : ∀ b, S P w0 n ops l ((d, true, .pointer (some ⟨b, 0, none⟩)) :: F) ((i, .blk b (IsBox z.cells.toList ty)) :: L) Q) : S P w0 n ops (o :: l) F L Q :=
  S_loud d hg hd hdn fun a w hF hM => by
    refine ⟨_, w.alloc (.cells z.cells ty), _, ?_, hM.new i _ (IsBox z.cells.toList ty) (by simp [IsBox]), hK w.heap.size⟩
    simp only [execOp, ho, Instr.alloc, newVar, newRow, Sem.run_bind, hz, Result.andThen_ok, run_newObj, Sem.run_pure]
    rfl
theorem S_box (d i : Nat) {ty : TypeId} (hg : o.guard = none) (hd : o.dst = some d) (hdn : Nat.blt d n = true) (ho : o.op = .box ty x) (hx : F.ev x = some (true, v))
    (hK : ∀ b, S P w0 n ops l ((d, true, .pointer (some ⟨b, 0, none⟩)) :: F) ((i, .blk b (IsBox v.cells.toList ty)) :: L) Q) : S P w0 n ops (o :: l) F L Q :=
  S_loud d hg hd hdn fun a w hF hM => by
    refine ⟨_, w.alloc (.cells v.cells ty), _, ?_, hM.new i _ (IsBox v.cells.toList ty) (by simp [IsBox]), hK w.heap.size⟩
    have hx' : a.eval x = v := by have := hF.eval hx; simpa using this
    simp only [execOp, ho, hx', Instr.box, newVar, newRow, Sem.run_bind, Result.andThen_ok, run_newObj, Sem.run_pure]
    rfl
theorem spl_eq : ∀ (cs : List Value) (off : Nat) (vs : List Value), off + vs.length ≤ cs.length → spl cs off vs = cs.take off ++ vs ++ cs.drop (off + vs.length)
  | cs, off, [], _ => by cases cs <;> simp [spl]
  | [], off, v :: vs, h => by simp at h
  | c :: cs, 0, v :: vs, h => by
    have := spl_eq cs 0 vs (by simp at h ⊢; omega)
    simp [spl, this]
  | c :: cs, k + 1, v :: vs, h => by
    have := spl_eq cs k (v :: vs) (by simp at h ⊢; omega)
    have e : k + 1 + (vs.length + 1) = (k + (vs.length + 1)) + 1 := by omega
    simp [spl, this, e]
theorem grownBy_setRow {w : World} {b : Nat} (cs : Array Value) : w.grownBy (w.setRow b cs) (some b) :=
  ⟨rfl, rfl, rfl, by simp, fun k _ hne => setRow_other w b k cs (fun e => hne (by rw [e]))⟩
/-- A store into a box of the call's own. -/
theorem S_store (i : Nat) {ty tb : TypeId} {b off : Nat} {cs : List Value} (hg : o.guard = none) (hd : o.dst = none) (ho : o.op = .store ty x y) (hx : F.ev x = some (true, .pointer (some ⟨b, off, none⟩))) (hy : F.ev y = some (true, v))
    (hL : L.get i = some (.blk b (IsBox cs tb))) (hz : (P.info? ty).map (·.size) = some v.cells.size) (h1 : allOne v.cells.toList = true) (hfit : Nat.ble (off + v.cells.size) cs.length = true)
    (hK : S P w0 n ops l F ((i, .blk b (IsBox (spl cs off v.cells.toList) tb)) :: L) Q) : S P w0 n ops (o :: l) F L Q :=
  S_mute hg hd fun a w hF hM => by
    have hx' := hF.eval hx
    simp only [cond_true] at hx'
    have hy' : a.eval y = v := by have := hF.eval hy; simpa using this
    have h1 := allOne_mem h1
    have hfit := Nat.le_of_ble_eq_true hfit
    obtain ⟨hb, ob, h2, h3⟩ := hM.sat i _ hL
    unfold IsBox at h3
    subst h3
    cases hq : P.info? ty with
    | none => simp [hq] at hz
    | some j =>
      simp only [hq, Option.map_some, Option.some.injEq] at hz
      have hst := run_storeCells_at P b off tb v.cells.toList 0 cs.toArray w h2 (by simpa using hfit) h1
      refine ⟨w.setRow b (spl cs off v.cells.toList).toArray, _, ?_, hM.turn (p' := .blk b (IsBox (spl cs off v.cells.toList) tb)) hL (grownBy_setRow _) ⟨hb, _, setRow_heap w b _ _ tb (0, 0) h2, rfl⟩ (.inl rfl), hK⟩
      rw [spl_eq cs off v.cells.toList (by simpa using hfit)]
      simp only [Nat.add_zero] at hst
      simp only [execOp, ho, hx', hy', Instr.storeAt, Instr.sureAddr, storeVar, sizeOf, typeInfo, Sem.run_bind, Sem.run_pure, Result.andThen_ok, run_program, hq]
      simp [hz, hst]

/-! ### Calls -/
theorem run_cf {f : FuncId} {fn : Func} {c : Code} (hf : P.funcs[f]? = some fn) (hname : (fn.name == "runtime.NumGoroutine") = false) (hb : fn.body = some c) (args : Array Value) (w : World) :
    (callFunc f args).run P w = .ok (.enter f args) w := by
  have h1 : fn.name ≠ "runtime.NumGoroutine" := by simpa using hname
  simp [callFunc, hf, h1, hb]
def FL.evs (F : FL) : List Operand → Option (List Bool × List Value)
  | [] => some ([], [])
  | x :: r => match F.ev x, FL.evs F r with
    | some (g, v), some (gs, vs) => some (g :: gs, v :: vs)
    | _, _ => none
theorem evs_map {a : Act} (hF : Fr n F a) : ∀ (xs : List Operand) {gs : List Bool} {vs : List Value}, F.evs xs = some (gs, vs) → gs.all id = true → xs.map a.eval = vs
  | [], gs, vs, h, _ => by simp only [FL.evs, Option.some.injEq, Prod.mk.injEq] at h; rw [← h.2]; rfl
  | x :: r, gs, vs, h, hg => by
    unfold FL.evs at h
    split at h
    · rename_i g v gs' vs' h1 h2
      simp only [Option.some.injEq, Prod.mk.injEq] at h
      obtain ⟨rfl, rfl⟩ := h
      simp only [List.all_cons, Bool.and_eq_true] at hg
      have hg1 : g = true := hg.1
      subst hg1
      have e1 := hF.eval h1
      simp only [cond_true] at e1
      simp only [List.map_cons, e1, evs_map hF r h2 hg.2]
    · cases h
/-- What a call of a function value comes to. -/
theorem run_call {a : Act} {w : World} {f : FuncId} {fx : Operand} {as : List Operand} {ts : Array TypeId} {cap : Array Value} {vs : List Value} (ho : o.op = .call { callee := .value fx, args := as.toArray, argTypes := ts })
    (hf : a.eval fx = .func (.func f) #[] cap) (hv : as.map a.eval = vs) (hc : ∀ args w, (callFunc f args).run P w = .ok (.enter f args) w) : (execOp a.eval o).run P w = .ok (.enter f (vs.toArray ++ cap)) w := by
  simp only [execOp, ho, resolve, hf, Deferred.ofValue, Sem.run_bind, Sem.run_pure, Result.andThen_ok, invoke, hc]
  simp [hv]
/-- A call that hands back a value known ahead, and turns nothing that was there. -/
theorem y_call {f : FuncId} {fx : Operand} {as : List Operand} {ts : Array TypeId} {cap : Array Value} {gs : List Bool} {vs : List Value} {gf : Bool} (ho : o.op = .call { callee := .value fx, args := as.toArray, argTypes := ts })
    (hf : F.ev fx = some (gf, .func (.func f) #[] cap)) (hv : F.evs as = some (gs, vs)) (hc : ∀ args w, (callFunc f args).run P w = .ok (.enter f args) w)
    (h : g = true → ∀ w, Mem w0 L w → Calls P f (vs.toArray ++ cap) w fun e w' => e = .returned v ∧ Below w.heap.size w w')
    (hi : g = true → gf = true := by first | exact (fun _ => rfl) | exact (fun h => h) | exact (fun h => (Bool.and_eq_true_iff.1 h).1) | simp_all) (hi' : g = true → gs.all id = true := by first | exact (fun _ => rfl) | (intro h; simp_all)) : Y P w0 F L g o v := fun n a hF hg w hM => by
  unfold Oper.quietAt
  rw [run_call ho (hF.eval_on hf hg hi) (evs_map hF as hv (hi' hg)) hc]
  exact ⟨rfl, (h hg w hM).mono fun e w' ⟨he, hb⟩ => ⟨he, hM.call hb⟩⟩
/-- A call of whatever kind. -/
theorem S_call (d : Nat) {X : Type} {f : FuncId} {fx : Operand} {as : List Operand} {ts : Array TypeId} {cap : Array Value} {gs : List Bool} {vs : List Value} (hg : o.guard = none) (hd : o.dst = some d) (hdn : Nat.blt d n = true)
    (ho : o.op = .call { callee := .value fx, args := as.toArray, argTypes := ts }) (hf : F.ev fx = some (true, .func (.func f) #[] cap)) (hv : F.evs as = some (gs, vs)) (hgs : gs.all id = true) (hc : ∀ args w, (callFunc f args).run P w = .ok (.enter f args) w)
    (rv : X → Value) (Px : X → Prop) (Lx : X → HL)
    (h : ∀ w, Mem w0 L w → Calls P f (vs.toArray ++ cap) w fun e w' => ∃ x, e = .returned (rv x) ∧ Px x ∧ Mem w0 (Lx x) w')
    (hK : ∀ x, Px x → S P w0 n ops l ((d, true, rv x) :: F) (Lx x) Q) : S P w0 n ops (o :: l) F L Q := by
  intro a w hF hM
  refine wpList_plain hg fun K hk => ?_
  unfold Oper.wp
  have hf' : a.eval fx = .func (.func f) #[] cap := by have := hF.eval hf; simpa using this
  rw [run_call ho hf' (evs_map hF as hv hgs) hc]
  refine (h w hM).mono ?_
  rintro e w' ⟨x, rfl, hp, hM'⟩
  refine hk _ _ (hK x hp _ _ ?_ hM')
  rw [hd]
  exact hF.put true (rv x) hdn
theorem ownsRow_mono {w : World} {B B' : Nat} {e : TypeId} {s : Nat} {v : Value} {q : Nat} {xs : List Value} (h : w.ownsRow B e s v q xs) (hB : B' ≤ B) : w.ownsRow B' e s v q xs := by
  refine ⟨h.1, ?_⟩
  rcases h.2 with hn | ⟨g, cap, cur, rfl, hb, rest⟩
  · exact .inl hn
  · exact .inr ⟨g, cap, cur, rfl, by omega, rest⟩
/-- A callee's new row becomes one of ours. -/
theorem Mem.gain {w w' : World} (h : Mem w0 L w) (hb : Below w.heap.size w w') (i : Nat) {e : TypeId} {s q : Nat} {xs : List Value} (ho : w'.ownsRow w.heap.size e s v q xs) : Mem w0 ((i, .own e s v q xs) :: L) w' := by
  have h' := h.call hb
  refine ⟨h'.below, ?_, ?_⟩
  · intro j p hp
    rcases HL.get_cons hp with ⟨rfl, rfl⟩ | ⟨_, hq⟩
    · exact ownsRow_mono ho h.size
    · exact h'.sat j p hq
  · intro j k p r hjk hp hr b hf hf'
    rcases HL.get_cons hp with ⟨rfl, rfl⟩ | ⟨_, hp'⟩
    · rcases HL.get_cons hr with ⟨rfl, rfl⟩ | ⟨_, hr'⟩
      · exact hjk rfl
      · have h1 := (ho.lt b hf).1
        have h2 := (It.lt (h.sat k r hr') b hf').2
        omega
    · rcases HL.get_cons hr with ⟨rfl, rfl⟩ | ⟨_, hr'⟩
      · have h1 := (ho.lt b hf').1
        have h2 := (It.lt (h.sat j p hp') b hf).2
        omega
      · exact h.apart j k p r hjk hp' hr' b hf hf'

/-! ### Rows of the call's own -/
theorem own_form {w : World} {B : Nat} {e : TypeId} {s q : Nat} {xs : List Value} (h : w.ownsRow B e s v q xs) : ∃ A c, v = .slice A q c := by
  rcases h.2 with ⟨rfl, rfl⟩ | ⟨gb, cap, cur, rfl, _⟩
  · exact ⟨_, _, rfl⟩
  · exact ⟨_, _, rfl⟩
theorem own_reads {w : World} {e : TypeId} {s q c i : Nat} {A : Option Addr} {xs : List Value} (hM : Mem w0 L w) (hL : L.get i = some (.own e s (.slice A q c) q xs)) : SlR w s A q xs := by
  have h : w.ownsRow w0.heap.size e s (.slice A q c) q xs := hM.sat i _ hL
  refine ⟨h.1, fun hq => ?_⟩
  rcases h.2 with ⟨_, h0⟩ | ⟨gb, cap, cur, hv, _, hg, _⟩
  · omega
  · have hA : A = some ⟨gb, 0, none⟩ := by injection hv
    subst hA
    exact ⟨_, rfl, (Array.getElem?_eq_some_iff.1 hg).1, h.cells (g := gb) rfl⟩
theorem y_load_own (i : Nat) {A : Option Addr} {q c j : Nat} {ty e : TypeId} {xs : List Value} {d : TypeDesc} (ho : o.op = .load ty x) (hx : F.ev x = some (gx, .pointer (at_ A j 1))) (hL : L.get i = some (.own e 1 (.slice A q c) q xs)) (hj : g = true → j < q) (hv : g = true → xs[j]? = some v)
    (hu : P.underlying ty = some d) (hd : isAggB d = false) (hi : g = true → gx = true := by first | exact (fun _ => rfl) | exact (fun h => h) | exact (fun h => (Bool.and_eq_true_iff.1 h).1) | simp_all) : Y P w0 F L g o v :=
  Y_of fun n a hF hg w hM => by
    obtain ⟨ad, rfl, hlt, hc⟩ := (own_reads hM hL).2 (by have := hj hg; omega)
    have h1 := hc j v (hv hg)
    simp only [execOp, ho, hF.eval_on hx hg hi, at_, Option.map_some, Sem.run_bind, Nat.mul_one, run_loadVar1 hu hd w h1]; rfl
theorem y_load_ownA (i : Nat) {A : Option Addr} {q c j size : Nat} {ty e : TypeId} {xs cs : List Value} {d : TypeDesc} (ho : o.op = .load ty x) (hx : F.ev x = some (gx, .pointer (at_ A j size))) (hL : L.get i = some (.own e size (.slice A q c) q xs)) (hj : g = true → j < q)
    (hv : g = true → ∀ i u, cs[i]? = some u → xs[j * size + i]? = some u)
    (hu : P.underlying ty = some d) (hd : isAggB d = true) (hz : (P.info? ty).map (·.size) = some cs.length) (hi : g = true → gx = true := by first | exact (fun _ => rfl) | exact (fun h => h) | exact (fun h => (Bool.and_eq_true_iff.1 h).1) | simp_all) : Y P w0 F L g o (.agg cs.toArray) :=
  Y_of fun n a hF hg w hM => by
    obtain ⟨ad, rfl, hlt, hc⟩ := (own_reads hM hL).2 (by have := hj hg; omega)
    simp only [execOp, ho, hF.eval_on hx hg hi, at_, Option.map_some, Sem.run_bind, run_loadVarA hu hd hz w (fun i u hu' => by rw [add_of_add]; exact hc _ u (hv hg i u hu'))]; rfl
def FL.evp (F : FL) : List (Nat × Operand) → Option (List (Nat × Value))
  | [] => some []
  | (i, x) :: r => match F.ev x, FL.evp F r with
    | some (true, v), some vs => some ((i, v) :: vs)
    | _, _ => none
theorem evp_map {a : Act} (hF : Fr n F a) : ∀ (xs : List (Nat × Operand)) {vs : List (Nat × Value)}, F.evp xs = some vs → xs.map (fun p => (p.1, a.eval p.2)) = vs
  | [], vs, h => by simp only [FL.evp, Option.some.injEq] at h; rw [← h]; rfl
  | (i, x) :: r, vs, h => by
    unfold FL.evp at h
    split at h
    · rename_i v vs' h1 h2
      simp only [Option.some.injEq] at h
      subst h
      have e1 := hF.eval h1
      simp only [cond_true] at e1
      simp only [List.map_cons, e1, evp_map hF r h2]
    · cases h
/-- The parts of a literal, in order from k on, none left out: their cells. -/
def partsFrom (size : Nat) : Nat → List (Nat × Value) → Option (List Value)
  | _, [] => some []
  | k, (i, v) :: r => bif Nat.beq i k && Nat.beq v.cells.size size then (match partsFrom size (k + 1) r with | some r => some (v.cells.toList ++ r) | none => none) else none
theorem zip_set (cs : List Value) : ∀ (base : List Value) (off k : Nat), off + k + cs.length ≤ base.length →
    ((cs.zipIdx k).foldl (fun b (p : Value × Nat) => b.setIfInBounds (off + p.2) p.1) base.toArray).toList = base.take (off + k) ++ cs ++ base.drop (off + k + cs.length) := by
  induction cs with
  | nil => intro base off k _; simp
  | cons c cs ih =>
    intro base off k h
    simp only [List.zipIdx_cons, List.foldl_cons]
    have hl : off + k < base.length := by simp at h; omega
    have e : base.toArray.setIfInBounds (off + k) c = (base.set (off + k) c).toArray := by simp
    rw [e, ih (base.set (off + k) c) off (k + 1) (by simp at h ⊢; omega)]
    apply List.ext_getElem?
    intro j
    simp only [List.length_cons] at h
    by_cases h1 : j < off + k
    · simp [List.getElem?_append, List.getElem?_take, List.getElem?_drop, List.getElem?_set, h1, show j < off + (k + 1) from by omega, show ¬ off + k = j from by omega, show off + k ≤ base.length from by omega, show off + (k + 1) ≤ base.length from by omega]
    · by_cases h2 : j = off + k
      · subst h2
        simp [List.getElem?_append, List.getElem?_take, List.getElem?_drop, List.getElem?_set, hl, show off + k < off + (k + 1) from by omega, show off + k ≤ base.length from by omega, show off + (k + 1) ≤ base.length from by omega]
      · obtain ⟨q, rfl⟩ : ∃ q, j = off + k + 1 + q := ⟨j - (off + k + 1), by omega⟩
        simp [List.getElem?_append, List.getElem?_take, List.getElem?_drop, List.getElem?_set, show off + k ≤ base.length from by omega, show off + (k + 1) ≤ base.length from by omega]
        have e1 : off + k + 1 + q - (off + (k + 1)) = q := by omega
        have e2 : off + k + 1 + q - (off + k) = q + 1 := by omega
        rw [if_neg (show ¬ off + k + 1 + q < off + (k + 1) from by omega), if_neg (show ¬ off + k + 1 + q < off + k from by omega), e1, e2, List.getElem?_cons_succ, List.getElem?_append]
        by_cases h3 : q < cs.length
        · simp only [h3, if_true]
        · simp only [h3, if_false]
          rw [if_neg (by omega), List.getElem?_drop]
          congr 1; omega
theorem fill_parts (size : Nat) : ∀ (ps : List (Nat × Value)) (k : Nat) (base cells : List Value), partsFrom size k ps = some cells → base.length = (k + ps.length) * size →
    Instr.fill (fun i => some (i * size, size)) base.toArray ps = some (base.take (k * size) ++ cells).toArray
  | [], k, base, cells, h, hl => by
    simp only [partsFrom, Option.some.injEq] at h
    subst h
    simp only [List.length_nil, Nat.add_zero] at hl
    simp [Instr.fill, ← hl]
  | (i, v) :: r, k, base, cells, h, hl => by
    simp only [partsFrom] at h
    cases hb : (Nat.beq i k && Nat.beq v.cells.size size) with
    | false => rw [hb] at h; cases h
    | true =>
      rw [hb] at h
      simp only [Bool.and_eq_true] at hb
      have e1 := Nat.eq_of_beq_eq_true hb.1
      have e2 := Nat.eq_of_beq_eq_true hb.2
      subst e1
      simp only [cond_true] at h
      obtain ⟨rest, hr, rfl⟩ : ∃ rest, partsFrom size (i + 1) r = some rest ∧ v.cells.toList ++ rest = cells := by
        split at h
        · rename_i rest hr; exact ⟨rest, hr, by simpa using h⟩
        · cases h
      have hle : i * size + size ≤ base.length := by
        rw [hl]; simp only [List.length_cons]
        have : (i + (r.length + 1)) * size = i * size + size + r.length * size := by simp [Nat.add_mul]; omega
        omega
      have hz := zip_set v.cells.toList base (i * size) 0 (by simp [e2]; omega)
      have hz' : (v.cells.zipIdx.foldl (fun cs (c : Value × Nat) => cs.setIfInBounds (i * size + c.2) c.1) base.toArray) = (base.take (i * size) ++ v.cells.toList ++ base.drop (i * size + size)).toArray := by
        rw [← Array.toArray_toList (xs := Array.foldl _ _ _)]
        congr 1
        rw [← Array.foldl_toList, Array.toList_zipIdx]
        simpa [e2] using hz
      unfold Instr.fill
      simp only
      rw [if_neg (by simp [e2]; omega)]
      rw [hz']
      rw [fill_parts size r (i + 1) _ rest hr (by
        simp [e2, hl]
        have : (i + (r.length + 1)) * size = i * size + size + r.length * size := by simp [Nat.add_mul]; omega
        have : (i + 1 + r.length) * size = i * size + size + r.length * size := by simp [Nat.add_mul]
        omega)]
      congr 1
      have e3 : (i + 1) * size = i * size + size := by simp [Nat.add_mul]
      rw [e3, List.take_append_of_le_length (by simp [e2]; omega), List.take_of_length_le (by simp [e2]; omega)]
      simp
theorem run_buildSlice {t e : TypeId} {len size bytes : Nat} {z : Value} {ps : List (Nat × Value)} {cells : List Value} (ht : P.underlying t = some (.slice e)) (hs : (P.info? e).map (fun i => (i.zero, i.size, i.bytes)) = some (some z, size, bytes)) (hz : z.cells.size = size) (h0 : 0 < size) (hlen : 0 < len)
    (hp : partsFrom size 0 ps = some cells) (hn : ps.length = len) (hbig : len * size ≤ 1048576) (w : World) :
    (Instr.buildSlice t len ps.toArray).run P w = .ok (.slice (some ⟨w.heap.size, 0, none⟩) len len) (w.alloc (.cells cells.toArray e)) := by
  cases hq : P.info? e with
  | none => simp [hq] at hs
  | some i =>
    simp only [hq, Option.map_some, Option.some.injEq, Prod.mk.injEq] at hs
    have hf := fill_parts size ps 0 ((Array.range (len * size)).map (fun k => z.cells[k % z.cells.size]!)).toList cells hp (by simp [hn])
    simp only [Array.toArray_toList, Nat.zero_mul, List.take_zero, List.nil_append] at hf
    have h1 : ¬ len * size = 0 := by
      intro h; rcases Nat.mul_eq_zero.1 h with h | h <;> omega
    have h2 : ¬ 2 ^ 24 < len * size := by omega
    simp only [Instr.buildSlice, run_underlying ht, Sem.run_bind, Result.andThen_ok, sizeOf, typeInfo, run_program, hq, hs.2.1, Sem.run_pure, gt_iff_lt, h2, if_false, h1, zeroValue, hs.1]
    rw [hf]
    rfl
theorem y_indexOwn (i : Nat) {A : Option Addr} {q c j size : Nat} {e e' : TypeId} {k : IntKind} {xs : List Value} (ho : o.op = .indexAddr t x y) (hx : F.ev x = some (gx, .slice A q c)) (hy : F.ev y = some (gy, .int k (j : Int))) (hL : L.get i = some (.own e' size (.slice A q c) q xs))
    (ht : P.underlying t = some (.slice e)) (hz : (P.info? e).map (·.size) = some size) (hj : g = true → j < q)
    (hi : g = true → gx = true := by first | exact (fun _ => rfl) | exact (fun h => h) | exact (fun h => (Bool.and_eq_true_iff.1 h).1) | simp_all) (hi' : g = true → gy = true := by first | exact (fun _ => rfl) | exact (fun h => h) | exact (fun h => (Bool.and_eq_true_iff.1 h).1) | simp_all) : Y P w0 F L g o (.pointer (at_ A j size)) := fun n a hF hg w hM =>
  y_indexAddr ho hx hy ht hz (fun hg => SlR.isSome (own_reads hM hL) (hj hg)) hj hi hi' n a hF hg w hM
theorem y_fieldOwn (k : Nat) {A : Option Addr} {q c j size off i : Nat} {e : TypeId} {xs : List Value} (ho : o.op = .fieldAddr t x i) (hx : F.ev x = some (gx, .pointer (at_ A j size))) (hL : L.get k = some (.own e size (.slice A q c) q xs)) (hj : g = true → j < q)
    (hf : ∀ a w, (Instr.fieldAt t (.pointer (some a)) i).run P w = .ok (.pointer (some (a.add off))) w)
    (hi : g = true → gx = true := by first | exact (fun _ => rfl) | exact (fun h => h) | exact (fun h => (Bool.and_eq_true_iff.1 h).1) | simp_all) : Y P w0 F L g o (.pointer (at_ A (j * size + off) 1)) :=
  Y_of fun n a' hF hg w hM => by
    obtain ⟨ad, rfl, _⟩ := (own_reads hM hL).2 (by have := hj hg; omega)
    simp only [execOp, ho, hF.eval_on hx hg hi, at_, Option.map_some, Sem.run_bind, hf, add_of_add, Nat.mul_one]; rfl
theorem y_load_cellOwn (i : Nat) {A : Option Addr} {q c p size : Nat} {ty e : TypeId} {xs : List Value} {d : TypeDesc} (ho : o.op = .load ty x) (hx : F.ev x = some (gx, .pointer (at_ A p 1))) (hL : L.get i = some (.own e size (.slice A q c) q xs)) (hj : g = true → 0 < q) (hv : g = true → xs[p]? = some v)
    (hu : P.underlying ty = some d) (hd : isAggB d = false) (hi : g = true → gx = true := by first | exact (fun _ => rfl) | exact (fun h => h) | exact (fun h => (Bool.and_eq_true_iff.1 h).1) | simp_all) : Y P w0 F L g o v :=
  Y_of fun n a hF hg w hM => by
    obtain ⟨ad, rfl, hlt, hc⟩ := (own_reads hM hL).2 (hj hg)
    have h1 := hc p v (hv hg)
    simp only [execOp, ho, hF.eval_on hx hg hi, at_, Option.map_some, Sem.run_bind, Nat.mul_one, run_loadVar1 hu hd w h1]; rfl
/-- One cell of an owned row is written. -/
theorem S_storeOwn (i : Nat) {A : Option Addr} {q c p size : Nat} {ty e : TypeId} {xs xs' : List Value} (hg : o.guard = none) (hd : o.dst = none) (ho : o.op = .store ty x y) (hx : F.ev x = some (true, .pointer (at_ A p 1))) (hy : F.ev y = some (true, v))
    (hL : L.get i = some (.own e size (.slice A q c) q xs)) (hz : (P.info? ty).map (·.size) = some 1) (h1 : v.oneCell' = true) (hv : v.cells = #[v]) (hp : p < xs.length) (hxs : xs.set p v = xs')
    (hK : S P w0 n ops l F ((i, .own e size (.slice A q c) q xs') :: L) Q) : S P w0 n ops (o :: l) F L Q :=
  S_mute hg hd fun a w hF hM => by
    subst hxs
    have hx' := hF.eval hx
    simp only [cond_true] at hx'
    have hy' : a.eval y = v := by have := hF.eval hy; simpa using this
    have hown : w.ownsRow w0.heap.size e size (.slice A q c) q xs := hM.sat i _ hL
    have hlen := hown.1
    rcases hown.2 with ⟨_, h0⟩ | ⟨gb, cap, cur, hvv, hb, hgb, hnc, hcm, hsz, ht⟩
    · rw [h0] at hlen; simp at hlen; subst hlen; simp at hp
    · have hA : A = some ⟨gb, 0, none⟩ := by injection hvv
      have hc' : c = cap := by injection hvv
      subst hA; subst hc'
      have hqc : q * size ≤ c * size := Nat.mul_le_mul_right size hnc
      have hst := run_storeCells_at P gb p e [v] 0 cur w hgb (by simp; omega) (by simpa using h1)
      cases hq : P.info? ty with
      | none => simp [hq] at hz
      | some j =>
        simp only [hq, Option.map_some, Option.some.injEq] at hz
        refine ⟨w.setRow gb (cur.toList.take p ++ [v] ++ cur.toList.drop (p + 1)).toArray, _, ?_, hM.turn (p' := .own e size (.slice (some ⟨gb, 0, none⟩) q c) q (xs.set p v)) hL (by simpa [It.foot, Value.ownBlock] using grownBy_setRow _) ?_ (.inl rfl), hK⟩
        · simp only [Nat.add_zero, List.length_cons, List.length_nil, Nat.zero_add] at hst
          simp only [execOp, ho, hx', hy', at_, Option.map_some, Nat.mul_one, Instr.storeAt, Instr.sureAddr, storeVar, sizeOf, typeInfo, Sem.run_bind, Sem.run_pure, Result.andThen_ok, run_program, hq]
          rw [hv, add_zero_off, Nat.zero_add]
          simp [hz, hst]
        · refine ⟨by simp [hlen], .inr ⟨gb, c, _, rfl, hb, setRow_heap w gb cur _ e (0, 0) hgb, hnc, hcm, ?_, ?_⟩⟩
          · simp; omega
          · rw [← ht]
            have hpq : p < q * size := by omega
            apply List.ext_getElem?
            intro j
            have hcl : cur.toList.length = c * size := by simpa using hsz
            by_cases hj : j < q * size
            · rw [List.getElem?_take, if_pos hj]
              by_cases e1 : j < p
              · rw [List.getElem?_set_ne (by omega), List.getElem?_take, if_pos hj, List.append_assoc, List.getElem?_append_left (by simp; omega), List.getElem?_take, if_pos e1]
              · by_cases e2 : j = p
                · subst e2
                  rw [List.getElem?_set_self (by simp; omega), List.append_assoc, List.getElem?_append_right (by simp; omega), List.length_take, Nat.min_eq_left (by omega)]
                  simp
                · rw [List.getElem?_set_ne (by omega), List.getElem?_take, if_pos hj, List.append_assoc, List.getElem?_append_right (by simp; omega), List.length_take, Nat.min_eq_left (by omega)]
                  obtain ⟨r, rfl⟩ : ∃ r, j = p + 1 + r := ⟨j - (p + 1), by omega⟩
                  rw [show p + 1 + r - p = r + 1 from by omega]
                  simp
            · rw [List.getElem?_eq_none (by simp; omega), List.getElem?_eq_none (by simp; omega)]
/-- A literal of a slice: its block is an owned row. -/
theorem S_buildSlice (d i : Nat) {len size bytes : Nat} {e : TypeId} {z : Value} {parts : List (Nat × Operand)} {ps : List (Nat × Value)} {cells : List Value} (hg : o.guard = none) (hd : o.dst = some d) (hdn : Nat.blt d n = true) (ho : o.op = .buildSlice t len parts.toArray)
    (hp : F.evp parts = some ps) (ht : P.underlying t = some (.slice e)) (hs : (P.info? e).map (fun i => (i.zero, i.size, i.bytes)) = some (some z, size, bytes)) (hz : z.cells.size = size) (h0 : 0 < size) (hlen : 0 < len) (hc : partsFrom size 0 ps = some cells) (hn : ps.length = len) (hbig : len * size ≤ 1048576)
    (hcl : cells.length = len * size) (xs' : List Value) (hxs : cells = xs')
    (hK : ∀ b, S P w0 n ops l ((d, true, .slice (some ⟨b, 0, none⟩) len len) :: F) ((i, .own e size (.slice (some ⟨b, 0, none⟩) len len) len xs') :: L) Q) : S P w0 n ops (o :: l) F L Q :=
  S_loud d hg hd hdn fun a w hF hM => by
    subst hxs
    have hm : len ≤ maxLen := by
      have : len * 1 ≤ len * size := Nat.mul_le_mul_left len h0
      unfold maxLen; omega
    refine ⟨_, w.alloc (.cells cells.toArray e), _, ?_, hM.gain ((Below.refl _ _).alloc (Nat.le_refl _) _) i (v := .slice (some ⟨w.heap.size, 0, none⟩) len len) ⟨hcl, .inr ⟨w.heap.size, len, cells.toArray, rfl, Nat.le_refl _, heap_alloc_new w _, Nat.le_refl _, hm, by simpa using hcl, by simp [← hcl]⟩⟩, hK w.heap.size⟩
    have hp' := evp_map hF parts hp
    have hp2 : (parts.toArray.map fun (p : Nat × Operand) => (p.1, a.eval p.2)) = ps.toArray := by simp [hp']
    simp only [execOp, ho]
    rw [show (Array.map (fun x => match x with | (i, x) => (i, a.eval x)) parts.toArray) = ps.toArray from hp2]
    simp only [Sem.run_bind, run_buildSlice ht hs hz h0 hlen hc hn hbig]; rfl
/-- append onto an owned row of what lies in another owned row. -/
theorem S_append (d i j : Nat) {e : TypeId} {info : TypeInfo} {z : Value} {size bytes q m c : Nat} {A : Option Addr} {xs news : List Value} (hg : o.guard = none) (hd : o.dst = some d) (hdn : Nat.blt d n = true)
    (ho : o.op = .call { callee := .builtin .append, args := #[x, y], argTypes := #[t, t] })
    (hx : F.ev x = some (true, v)) (hy : F.ev y = some (true, .slice A m c)) (hLi : L.get i = some (.own e size v q xs)) (hLj : L.get j = some (.own e size (.slice A m c) m news))
    (ht : P.underlying t = some (.slice e)) (hi : P.info? e = some info) (hz : info.zero = some z) (hsize : info.size = size) (hby : info.bytes = bytes) (hzs : z.cells.size = size) (hsz : 0 < size) (hm : 0 < m) (h1 : allOne news = true)
    (h63 : q + m ≤ maxLen) (hbytes : (q + m) * bytes ≤ 140737488355328) (q' : Nat) (xs' : List Value) (hq : q + m = q') (hxs : xs ++ news = xs')
    (hK : ∀ A' c', S P w0 n ops l ((d, true, .slice A' q' c') :: F) ((i, .own e size (.slice A' q' c') q' xs') :: L) Q) : S P w0 n ops (o :: l) F L Q :=
  S_loud d hg hd hdn fun a w hF hM => by
    subst hq; subst hxs
    have hx' : a.eval x = v := by have := hF.eval hx; simpa using this
    have hy' : a.eval y = .slice A m c := by have := hF.eval hy; simpa using this
    have hown : w.ownsRow w0.heap.size e size v q xs := hM.sat i _ hLi
    obtain ⟨hl, hr⟩ := own_reads hM hLj
    obtain ⟨ad, rfl, _, hcells⟩ := hr hm
    obtain ⟨v', w', hrun, h2, h3, _, h5⟩ := run_append_own_at (P := P) w w0.heap.size t o.type e info z size bytes ht hi hz hsize hby hzs hsz v q xs hown ad m c news hl hcells (allOne_mem h1) h63 hbytes hM.size
    refine ⟨v', w', _, ?_, hM.turn (p' := .own e size v' (q + m) (xs ++ news)) hLi h3 h2 ?_, ?_⟩
    rotate_left 2
    · obtain ⟨A', c', rfl⟩ := own_form h2
      exact hK A' c'
    · simp only [execOp, ho, resolve, invoke, builtin, Sem.run_bind, Sem.run_pure, Result.andThen_ok, List.map_toArray, List.map_cons, List.map_nil, hx', hy', hrun]
    · rcases h5 with h5 | h5
      · exact .inl h5
      · refine .inr fun b hb => ?_
        have : some b = some w.heap.size := hb.symm.trans h5
        injection this with this
        omega
theorem S_nilSlice (i : Nat) {e : TypeId} {size : Nat} (hK : S P w0 n ops l F ((i, .own e size (.slice none 0 0) 0 []) :: L) Q) : S P w0 n ops l F L Q := fun a w hF hM =>
  hK a w hF (hM.add i _ rfl (World.ownsRow_nil _ _ _ _))

/-! ### Bytes -/
def bytesV (l : List UInt8) : List Value := l.map fun b => .int .u8 (b.toNat : Int)
end
end Go.Eng
