/- What a strings.Builder does inside: pointers compared and turned round, bytes appended, the string at the end. No condition. -/
import Derived.Test.YtgbldojgbpgjbaaGreatDoorLend
import Derived.Lib.Builder
import Derived.Lib.AppendStr
import Derived.Lib.UnsafeStr
import Derived.Laws.Externs
import Derived.StillTail
namespace Go.Eng
set_option linter.unusedSimpArgs false
set_option linter.unusedVariables false
set_option linter.unusedSectionVars false
open Go.RowKit
section
variable {P : Program} {w0 : World} {n : Nat} {ops : Array Oper} {l : List Oper} {F : FL} {L : HL} {Q : Exit → Act → World → Prop} {o : Oper} {g : Bool} {v : Value} {x y z : Operand} {t t' : TypeId} {gx gy : Bool}
theorem y_nilCheck {a0 : Addr} (ho : o.op = .nilCheck x) (hx : F.ev x = some (gx, .pointer (some a0))) (hi : g = true → gx = true := by first | exact (fun _ => rfl) | exact (fun h => h) | exact (fun h => (Bool.and_eq_true_iff.1 h).1) | simp_all) : Y P w0 F L g o (.pointer (some a0)) :=
  Y_of fun n a hF hg w _ => by simp only [execOp, ho, hF.eval_on hx hg hi]; rfl
theorem run_equalIn_nil (d : Nat) {e : TypeId} {q : Option Addr} (ht : P.underlying t = some (.pointer e)) (w : World) : (Op.equalIn (d + 1) t (.pointer q) (.pointer none)).run P w = .ok q.isNone w := by
  cases q <;> simp [Op.equalIn, run_underlying ht]
/-- a pointer beside nil -/
theorem b_eqlp {e : TypeId} {q : Option Addr} (ht : P.underlying t = some (.pointer e)) : ∀ w, (do eqGuard .eql t x y (.pointer q) (.pointer none); binOp .eql t (.pointer q) (.pointer none) : Sem Value).run P w = .ok (.bool q.isNone) w := fun w => by
  simp only [eqGuard_at_pointer, binOp, Op.equal, Op.maxDepth]
  simp [run_equalIn_nil 9999 ht]
theorem b_neqp_same {e : TypeId} {j : TypeInfo} {a0 : Addr} (ht : P.underlying t = some (.pointer e)) (hj : P.info? e = some j) : ∀ w, (do eqGuard .neq t x y (.pointer (some a0)) (.pointer (some a0)); binOp .neq t (.pointer (some a0)) (.pointer (some a0)) : Sem Value).run P w = .ok (.bool false) w := fun w => by
  simp only [eqGuard_at_pointer, Sem.run_bind, Sem.run_pure, Result.andThen_ok]
  exact Lib.run_neq_ptr_same w a0 ht hj
theorem y_conv_to {i : Nat} {b : Nat} {cs : List Value} {src dst tb : TypeId} (ho : o.op = .convert src dst x) (hx : F.ev x = some (gx, .pointer (some ⟨b, 0, none⟩))) (hL : L.get i = some (.blk b (IsBox cs tb))) (hs : P.underlying src = some (.pointer t)) (hd : P.underlying dst = some .unsafePointer)
    (hz : (P.info? t).map (·.size) = some cs.length) (h0 : 0 < cs.length) (hi : g = true → gx = true := by first | exact (fun _ => rfl) | exact (fun h => h) | exact (fun h => (Bool.and_eq_true_iff.1 h).1) | simp_all) : Y P w0 F L g o (.pointer (some ⟨b, 0, none⟩)) :=
  Y_of fun n a hF hg w hM => by
    obtain ⟨_, ob, h1, h2⟩ := hM.sat i _ hL
    unfold IsBox at h2
    subst h2
    obtain ⟨j, hj, hjs⟩ := Option.map_eq_some_iff.1 hz
    have hsh : w.shape? b = some (tb, cs.length) := by simp [World.shape?, h1]
    simp only [execOp, ho, hF.eval_on hx hg hi, Sem.run_bind, Lib.run_to_unsafe w ⟨b, 0, none⟩ hs hd hj (by omega) hsh h0]; rfl
theorem y_conv_from {i : Nat} {b : Nat} {cs : List Value} {src dst tb : TypeId} (ho : o.op = .convert src dst x) (hx : F.ev x = some (gx, .pointer (some ⟨b, 0, none⟩))) (hL : L.get i = some (.blk b (IsBox cs tb))) (hs : P.underlying src = some .unsafePointer) (hd : P.underlying dst = some (.pointer t))
    (hz : (P.info? t).map (·.size) = some cs.length) (hl : liesAt P P.depth tb (cs.length / P.cellsOf tb) 0 t 1 = true) (hi : g = true → gx = true := by first | exact (fun _ => rfl) | exact (fun h => h) | exact (fun h => (Bool.and_eq_true_iff.1 h).1) | simp_all) : Y P w0 F L g o (.pointer (some ⟨b, 0, none⟩)) :=
  Y_of fun n a hF hg w hM => by
    obtain ⟨_, ob, h1, h2⟩ := hM.sat i _ hL
    unfold IsBox at h2
    subst h2
    obtain ⟨j, hj, hjs⟩ := Option.map_eq_some_iff.1 hz
    have hsh : w.shape? b = some (tb, cs.length) := by simp [World.shape?, h1]
    simp only [execOp, ho, hF.eval_on hx hg hi, Sem.run_bind, Lib.run_from_unsafe w ⟨b, 0, none⟩ hs hd hj hsh hl]; rfl
/-- abi.NoEscape -/
theorem y_noEscape {f : FuncId} {ts : Array TypeId} (ho : o.op = .call { callee := .value (.func f), args := #[x], argTypes := ts }) (hx : F.ev x = some (gx, v))
    (hc : ∀ args w, (callFunc f args).run P w = ((Extern.AbiNoEscape.same args).run P w).andThen fun v w' => .ok (.value v) w') (hi : g = true → gx = true := by first | exact (fun _ => rfl) | exact (fun h => h) | exact (fun h => (Bool.and_eq_true_iff.1 h).1) | simp_all) : Y P w0 F L g o v :=
  Y_of fun n a hF hg w _ => by
    have hf : a.eval (.func f) = .func (.func f) #[] #[] := rfl
    simp only [execOp, ho, resolve, hf, Deferred.ofValue, Sem.run_bind, Sem.run_pure, Result.andThen_ok, invoke, List.map_toArray, List.map_cons, List.map_nil, hF.eval_on hx hg hi, Array.append_empty, Array.empty_append, hc, Lib.run_noEscape]
theorem strCells_bytes (s : List UInt8) : Lib.strCells ⟨s.toArray⟩ = bytesV s := by simp [Lib.strCells_eq, Lib.byteCells, bytesV]
/-- bytes appended to a row of ours: what comes, and where it lies -/
theorem run_appendStr {w : World} {base : Nat} {e ty : TypeId} {inf : TypeInfo} {q c : Nat} {A : Option Addr} {l' s : List UInt8} (ht : P.underlying t = some (.slice e)) (hu : P.underlying t' = some .string) (hi : P.info? e = some inf) (hz : inf.zero = some (.int .u8 0)) (hsz : inf.size = 1) (hby : inf.bytes = 1)
    (hown : w.ownsRow base e 1 (.slice A q c) q (bytesV l')) (hbytes : q + s.length ≤ 140737488355328) (hbase : base ≤ w.heap.size) :
    ∃ A' c' w', (Builtin.append_ #[t, t'] ty #[.slice A q c, str s]).run P w = .ok (.slice A' (q + s.length) c') w' ∧ w'.ownsRow base e 1 (.slice A' (q + s.length) c') (q + s.length) (bytesV (l' ++ s)) ∧ w.grownBy w' (Value.slice A q c).ownBlock ∧
      ((Value.slice A' (q + s.length) c').ownBlock = (Value.slice A q c).ownBlock ∨ (Value.slice A' (q + s.length) c').ownBlock = some w.heap.size) ∧ (A = none → c = 0 → s = [] → A' = none ∧ c' = 0) := by
  have hss : (⟨s.toArray⟩ : ByteArray).size = s.length := str_size s
  have hsc := strCells_bytes s
  have e1 : bytesV l' ++ bytesV s = bytesV (l' ++ s) := by simp [bytesV]
  have hql : q = l'.length := by have := hown.1; simp [bytesV] at this; omega
  have hbl : (bytesV (l' ++ s)).length = (q + s.length) * 1 := by simp [bytesV, hql]
  have hml : q + s.length ≤ maxLen := by unfold maxLen; omega
  have grown : ∀ old, old < q + s.length → (w.drew.alloc (.cells ((bytesV l').toArray ++ (bytesV s).toArray ++ Builtin.zeroCells (Value.int .u8 0).cells (grownCap w (q + s.length) old e - (q + s.length))) e)).ownsRow base e 1
      (.slice (some ⟨w.heap.size, 0, none⟩) (q + s.length) (grownCap w (q + s.length) old e)) (q + s.length) (bytesV (l' ++ s)) := fun old ho => by
    have hge := grownCap_ge w (q + s.length) old e
    have hcm := grownCap_le_maxLen w (q + s.length) old e hml
    refine ⟨hbl, .inr ⟨w.heap.size, _, _, rfl, hbase, heap_alloc_new w.drew _, hge, hcm, ?_, ?_⟩⟩
    · have hz1 : (Value.int IntKind.u8 0).cells.size = 1 := rfl
      simp only [Array.size_append, List.size_toArray, size_zeroCells, hz1]
      simp [bytesV, ← hql]; omega
    · simp only [Array.toList_append, List.append_assoc]
      rw [← List.append_assoc, e1, ← hbl]
      exact List.take_left
  rcases hown.2 with ⟨hv, h0⟩ | ⟨gb, cap, cur, hv, hb, hgb, hnc, hcm, hcs, htk⟩
  · have hA : A = none := by injection hv
    have hc : c = 0 := by injection hv
    subst hA; subst hc; subst h0
    have hl0 : l' = [] := List.eq_nil_of_length_eq_zero hql.symm
    subst hl0
    by_cases hs : s = []
    · subst hs
      refine ⟨none, 0, w, ?_, by simpa [bytesV] using World.ownsRow_nil w base e 1, ⟨rfl, rfl, rfl, Nat.le_refl _, fun _ _ _ => rfl⟩, .inl rfl, fun _ _ _ => ⟨rfl, rfl⟩⟩
      have hf := Lib.run_firstCells_string (P := P) w 1 ⟨(#[] : Array UInt8)⟩
      have h00 : (⟨(#[] : Array UInt8)⟩ : ByteArray).size = 0 := rfl
      rw [h00] at hf
      simp [Builtin.append_, run_underlying ht, run_underlying hu, sizeOf, typeInfo, hi, hsz, Builtin.lenOf, h00, hf]
    · have hsl : 0 < s.length := List.length_pos_iff.2 hs
      have hr := run_append_nil_string (P := P) w t t' ty e inf (.int .u8 0) ht hu hi hz ⟨s.toArray⟩ (by rw [hss]; omega) (by rw [hss]; omega) (by rw [hss, hby]; omega)
      have e2 : (s.toArray.map fun b => Value.int .u8 b.toNat) = (bytesV s).toArray := by simp [bytesV]
      have hgr := grown 0 (by omega)
      rw [hss] at hr
      simp only [Nat.zero_add, List.nil_append, bytesV, List.map_nil, Array.empty_append] at hgr hr e2 ⊢
      rw [e2] at hr
      exact ⟨_, _, _, hr, hgr, ⟨rfl, rfl, rfl, by simp, fun k hk _ => heap_alloc_old w.drew _ hk⟩, .inr rfl, fun _ _ h => absurd h hs⟩
  · have hA : A = some ⟨gb, 0, none⟩ := by injection hv
    have hc : c = cap := by injection hv
    subst hA; subst hc
    by_cases hroom : q + s.length ≤ c
    · have hr := Lib.run_append_room_string (P := P) w t t' ty e inf ht hu hi hsz gb q c cur hgb ⟨s.toArray⟩ (by rw [hss]; exact hroom) (by rw [hss]; omega)
      rw [hss, hsc] at hr
      refine ⟨_, _, _, hr, ⟨hbl, .inr ⟨gb, c, _, rfl, hb, setRow_heap w gb cur _ e _ hgb, hroom, hcm, ?_, ?_⟩⟩, ⟨rfl, rfl, rfl, by simp, fun k _ hk => setRow_other w gb k _ (fun e => hk (by simp [Value.ownBlock, e]))⟩, .inl rfl, fun h => by cases h⟩
      · simp only [List.size_toArray, List.length_append, List.length_take, List.length_drop, Array.length_toList]
        have : (bytesV s).length = s.length := by simp [bytesV]
        omega
      · have ht' : cur.toList.take q = bytesV l' := by simpa using htk
        rw [ht', e1, ← hbl]
        exact List.take_left
    · have holds : ∀ j u, (bytesV l')[j]? = some u → w.cell? ((⟨gb, 0, none⟩ : Addr).add j) = some u := hown.cells (g := gb) rfl
      have hr := Lib.run_append_grow_string (P := P) w t t' ty e inf (.int .u8 0) ht hu hi hz ⟨gb, 0, none⟩ q c (bytesV l') (by rw [hsz]; simp [bytesV, hql]) holds ⟨s.toArray⟩ (by rw [hss]; omega) (by rw [hss]; omega) (by rw [hss, hby]; exact growslice_fits (by omega) (by omega))
      rw [hss, hsc] at hr
      exact ⟨_, _, _, hr, grown c (by omega), ⟨rfl, rfl, rfl, by simp, fun k hk _ => heap_alloc_old w.drew _ hk⟩, .inr rfl, fun h => by cases h⟩
/-- 'append(b, s...)' of a string's bytes onto a row of ours. -/
theorem S_appendStr (d i : Nat) {e : TypeId} {q c : Nat} {A : Option Addr} {l' s : List UInt8} (hg : o.guard = none) (hd : o.dst = some d) (hdn : Nat.blt d n = true)
    (ho : o.op = .call { callee := .builtin .append, args := #[x, y], argTypes := #[t, t'] })
    (hx : F.ev x = some (true, .slice A q c)) (hy : F.ev y = some (true, str s)) (hL : L.get i = some (.own e 1 (.slice A q c) q (bytesV l')))
    (ht : P.underlying t = some (.slice e)) (hu : P.underlying t' = some .string) (hs : (P.info? e).map (fun i => (i.zero, i.size, i.bytes)) = some (some (.int .u8 0), 1, 1))
    (hbytes : q + s.length ≤ 140737488355328) (q' : Nat) (l'' : List UInt8) (hq : q + s.length = q') (hl : l' ++ s = l'')
    (hK : ∀ A' c', (A = none → c = 0 → s = [] → A' = none ∧ c' = 0) → S P w0 n ops l ((d, true, .slice A' q' c') :: F) ((i, .own e 1 (.slice A' q' c') q' (bytesV l'')) :: L) Q) : S P w0 n ops (o :: l) F L Q :=
  S_loud d hg hd hdn fun a w hF hM => by
    subst hq; subst hl
    have hx' : a.eval x = .slice A q c := by have := hF.eval hx; simpa using this
    have hy' : a.eval y = str s := by have := hF.eval hy; simpa using this
    obtain ⟨inf, hinf, hz, hsz, hby⟩ := info_parts hs
    obtain ⟨A', c', w', hrun, h2, h3, h4, h5⟩ := run_appendStr (P := P) (ty := o.type) ht hu hinf hz hsz hby (hM.sat i _ hL) hbytes hM.size
    refine ⟨_, w', _, ?_, hM.turn (p' := .own e 1 (.slice A' (q + s.length) c') (q + s.length) (bytesV (l' ++ s))) hL h3 h2 ?_, hK A' c' h5⟩
    · simp only [execOp, ho, resolve, invoke, builtin, Sem.run_bind, Sem.run_pure, Result.andThen_ok, List.map_toArray, List.map_cons, List.map_nil, hx', hy', hrun]
    · rcases h4 with h4 | h4
      · exact .inl h4
      · refine .inr fun b hb => ?_
        have : some b = some w.heap.size := hb.symm.trans h4
        injection this with this
        omega
/-- a row whose head may be frozen -/
def RowF (e : TypeId) (bs : List Value) (o : Obj) : Prop := ∃ cur fz, o = .cells cur e fz ∧ cur.toList.take bs.length = bs ∧ bs.length ≤ cur.size
theorem RowF.freeze {w : World} {e : TypeId} {bs : List Value} {g k : Nat} {ob : Obj} (h : w.heap[g]? = some ob) (hr : RowF e bs ob) : ∃ ob', (w.freeze ⟨g, 0, none⟩ k).heap[g]? = some ob' ∧ RowF e bs ob' := by
  obtain ⟨cur, ⟨lo, hi⟩, rfl, h1, h2⟩ := hr
  unfold World.freeze
  by_cases hk : k = 0
  · rw [if_pos hk]; exact ⟨_, h, cur, _, rfl, h1, h2⟩
  · rw [if_neg hk]
    exact ⟨_, by simp [Array.getElem?_modify, h]; rfl, cur, _, rfl, h1, h2⟩
theorem freeze_grown {w : World} {g k : Nat} : w.grownBy (w.freeze ⟨g, 0, none⟩ k) (some g) := by
  unfold World.freeze
  by_cases hk : k = 0
  · rw [if_pos hk]; exact ⟨rfl, rfl, rfl, Nat.le_refl _, fun _ _ _ => rfl⟩
  · rw [if_neg hk]
    refine ⟨rfl, rfl, rfl, by simp, fun j _ hj => ?_⟩
    have : ¬ g = j := fun e => hj (by rw [e])
    show (Array.modify w.heap g _)[j]? = w.heap[j]?
    rw [Array.getElem?_modify, if_neg this]
/-- a row is handed over to 'unsafe.String' -/
theorem S_giveRow (i : Nat) {e : TypeId} {g q c : Nat} {bs : List Value} (hL : L.get i = some (.own e 1 (.slice (some ⟨g, 0, none⟩) q c) q bs)) (hK : S P w0 n ops l F ((i, .blk g (RowF e bs)) :: L) Q) : S P w0 n ops l F L Q := fun a w hF hM => by
  refine hK a w hF (hM.turn (p' := .blk g (RowF e bs)) hL ⟨rfl, rfl, rfl, Nat.le_refl _, fun _ _ _ => rfl⟩ ?_ (.inl rfl))
  obtain ⟨h1, h2⟩ : w.ownsRow w0.heap.size e 1 (.slice (some ⟨g, 0, none⟩) q c) q bs := hM.sat i _ hL
  rcases h2 with ⟨h2, _⟩ | ⟨gb, cap, cur, hv, hb, hgb, hnc, _, hcs, htk⟩
  · cases h2
  · obtain rfl : g = gb := by injection hv with h _ _; injection h with h; injection h
    have hq : bs.length = q := by simpa using h1
    exact ⟨hb, _, hgb, cur, _, rfl, by rw [hq]; simpa using htk, by omega⟩
/-! ### A region that draws its order, with a tail in order that writes -/
def E (P : Program) (w0 : World) (n : Nat) (ops : Array Oper) (tail l : List Oper) (F : FL) (L : HL) (Q : Exit → Act → World → Prop) : Prop :=
  ∀ a w, Fr n F a → Mem w0 L w → wpStill P ops w (fun a' => wpList P ops Q tail a' w) l a
theorem E_nil {tail : List Oper} (h : S P w0 n ops tail F L Q) : E P w0 n ops tail [] F L Q := fun a w hF hM => wpStill_nil (h a w hF hM)
theorem E_ {tail : List Oper} (d : Nat) (hg : o.guard = none) (hd : o.dst = some d) (hdn : Nat.blt d n = true) (v : Value) (hy : ∀ n a, Fr n F a → ∀ w, Mem w0 L w → (execOp a.eval o).run P w = .ok (.value v) w)
    (hK : E P w0 n ops tail l ((d, true, v) :: F) L Q) : E P w0 n ops tail (o :: l) F L Q := fun a w hF hM => by
  have hwt : Region.wanted o (yielded ops a.tmps) = true := by simp [Region.wanted, hg]
  unfold wpStill
  rw [if_pos hwt]
  unfold Oper.still
  rw [hy n a hF w hM]
  refine ⟨rfl, ?_⟩
  rw [hd]
  exact hK _ _ (hF.put true v hdn) hM
theorem T_tail {id : Nat} {l : List Oper} (k : Nat) (hm : P.follows .mixedOrders = true) (hB : Region.lexTailB .any l.toArray k = true) (h : E P w0 n l.toArray (l.drop k) (l.take k) F L Q) : T P w0 n (.region id l.toArray true) F L Q := fun a w hF hM =>
  wp_region_still_tail k hm hB (h a w.drew hF hM.drew)
theorem z_move (ho : o.op = .move x) (hx : F.ev x = some (true, v)) : ∀ n a, Fr n F a → ∀ w, Mem w0 L w → (execOp a.eval o).run P w = .ok (.value v) w := fun n a hF w _ => by
  simp only [execOp, ho, hF.eval_on hx (g := true) rfl (fun _ => rfl)]; rfl
theorem z_nilCheck {a0 : Addr} (ho : o.op = .nilCheck x) (hx : F.ev x = some (true, .pointer (some a0))) : ∀ n a, Fr n F a → ∀ w, Mem w0 L w → (execOp a.eval o).run P w = .ok (.value (.pointer (some a0))) w := fun n a hF w _ => by
  simp only [execOp, ho, hF.eval_on hx (g := true) rfl (fun _ => rfl)]; rfl
theorem z_fieldAddr {i off : Nat} {a : Addr} (ho : o.op = .fieldAddr t x i) (hx : F.ev x = some (true, .pointer (some a))) (hf : ∀ a w, (Instr.fieldAt t (.pointer (some a)) i).run P w = .ok (.pointer (some (a.add off))) w) :
    ∀ n a', Fr n F a' → ∀ w, Mem w0 L w → (execOp a'.eval o).run P w = .ok (.value (.pointer (some (a.add off)))) w := fun n a' hF w _ => by
  simp only [execOp, ho, hF.eval_on hx (g := true) rfl (fun _ => rfl), Sem.run_bind, hf]; rfl
theorem z_load (i : Nat) {b off : Nat} {cs : List Value} {ty tb : TypeId} {d : TypeDesc} (ho : o.op = .load ty x) (hx : F.ev x = some (true, .pointer (some ⟨b, off, none⟩))) (hL : L.get i = some (.blk b (IsBox cs tb))) (hv : nth cs off = some v)
    (hu : P.underlying ty = some d) (hd : isAggB d = false) : ∀ n a, Fr n F a → ∀ w, Mem w0 L w → (execOp a.eval o).run P w = .ok (.value v) w := fun n a hF w hM => by
  obtain ⟨_, ob, h1, h2⟩ := hM.sat i _ hL
  simp only [execOp, ho, hF.eval_on hx (g := true) rfl (fun _ => rfl), Sem.run_bind, run_loadVar1 hu hd w ((cell_of_box h1 h2).trans hv)]; rfl
theorem z_len {A : Option Addr} {q c : Nat} {e : TypeId} (ho : o.op = .call { callee := .builtin .len, args := #[x], argTypes := #[t] }) (hx : F.ev x = some (true, .slice A q c)) (ht : P.underlying t = some (.slice e)) :
    ∀ n a, Fr n F a → ∀ w, Mem w0 L w → (execOp a.eval o).run P w = .ok (.value (.int .i64 q)) w := fun n a hF w _ => by
  simp only [execOp, ho, resolve, invoke, builtin, List.map_toArray, List.map_cons, List.map_nil, hF.eval_on hx (g := true) rfl (fun _ => rfl)]
  have h : ∀ ty, (Builtin.len_ #[t] ty #[.slice A q c]).run P w = .ok (.int .i64 q) w := fun ty => by simp [Builtin.len_, run_underlying ht, goInt]
  simp only [Sem.run_bind, Sem.run_pure, Result.andThen_ok, h]
theorem z_sliceData {A : Option Addr} {q c : Nat} (ho : o.op = .call { callee := .builtin .unsafeSliceData, args := #[x], argTypes := #[t] }) (hx : F.ev x = some (true, .slice A q c)) (hc : A = none ∨ c ≠ 0) :
    ∀ n a, Fr n F a → ∀ w, Mem w0 L w → (execOp a.eval o).run P w = .ok (.value (.pointer A)) w := fun n a hF w _ => by
  simp only [execOp, ho, resolve, invoke, builtin, Sem.run_bind, Sem.run_pure, Result.andThen_ok, List.map_toArray, List.map_cons, List.map_nil, hF.eval_on hx (g := true) rfl (fun _ => rfl)]
  cases A with
  | none => simp only [Lib.run_unsafeSliceData_nil]; rfl
  | some a0 =>
    have hc' : c ≠ 0 := by
      rcases hc with h | h
      · cases h
      · exact h
    simp only [Lib.run_unsafeSliceData_row (P := P) (w := w) #[t] o.type a0 q c hc']; rfl
theorem S_unsafeString (d i : Nat) {e : TypeId} {g q : Nat} {l' : List UInt8} (hg : o.guard = none) (hd : o.dst = some d) (hdn : Nat.blt d n = true) (ho : o.op = .call { callee := .builtin .unsafeString, args := #[x, y], argTypes := #[t, t'] }) (hx : F.ev x = some (true, .pointer (some ⟨g, 0, none⟩))) (hy : F.ev y = some (true, .int .i64 (q : Int))) (hL : L.get i = some (.blk g (RowF e (bytesV l'))))
    (hq : l'.length = q) (h0 : 0 < q) (h63 : q ≤ 9223372036854775807) (ht : P.underlying t = some (.pointer e)) (hc : P.cellsOf e = 1) (hK : S P w0 n ops l ((d, true, str l') :: F) ((i, .blk g (RowF e (bytesV l'))) :: L) Q) : S P w0 n ops (o :: l) F L Q :=
  S_loud d hg hd hdn fun a w hF hM => by
    have hx' : a.eval x = .pointer (some ⟨g, 0, none⟩) := by have := hF.eval hx; simpa using this
    have hy' : a.eval y = .int .i64 (q : Int) := by have := hF.eval hy; simpa using this
    obtain ⟨hb, ob, h1, h2⟩ := hM.sat i _ hL
    obtain ⟨ob', h3, h4⟩ := RowF.freeze (k := l'.length) h1 h2
    obtain ⟨cur, fz, rfl, h5, h6⟩ := h2
    have hr := Lib.run_unsafeString_row (P := P) w t t' o.type e ht hc g cur.size (by simp [World.shape?, h1]) l' (by intro h; subst h; simp at hq; omega) (by simpa [bytesV] using h6) (by omega) (fun j x hj => by
      have h7 : (bytesV l')[j]? = some (.int .u8 (x.toNat : Int)) := by simp [bytesV, hj]
      rw [← h5, List.getElem?_take] at h7
      split at h7
      · rw [add_zero_off, Nat.zero_add]
        simp only [World.cell?, h1]
        simpa using h7
      · cases h7)
    subst hq
    refine ⟨str l', w.freeze ⟨g, 0, none⟩ l'.length, _, ?_, hM.turn (p' := .blk g (RowF e (bytesV l'))) hL freeze_grown ⟨hb, ob', h3, h4⟩ (.inl rfl), hK⟩
    simp only [execOp, ho, resolve, invoke, builtin, Sem.run_bind, Sem.run_pure, Result.andThen_ok, List.map_toArray, List.map_cons, List.map_nil, hx', hy', hr]
theorem S_unsafeString0 (d : Nat) {p : Option Addr} (hg : o.guard = none) (hd : o.dst = some d) (hdn : Nat.blt d n = true) (ho : o.op = .call { callee := .builtin .unsafeString, args := #[x, y], argTypes := #[t, t'] }) (hx : F.ev x = some (true, .pointer p)) (hy : F.ev y = some (true, .int .i64 0))
    (hK : S P w0 n ops l ((d, true, str []) :: F) L Q) : S P w0 n ops (o :: l) F L Q :=
  S_loud d hg hd hdn fun a w hF hM => by
    have hx' : a.eval x = .pointer p := by have := hF.eval hx; simpa using this
    have hy' : a.eval y = .int .i64 0 := by have := hF.eval hy; simpa using this
    refine ⟨str [], w, _, ?_, hM, hK⟩
    simp only [execOp, ho, resolve, invoke, builtin, Sem.run_bind, Sem.run_pure, Result.andThen_ok, List.map_toArray, List.map_cons, List.map_nil, hx', hy', Lib.run_unsafeString_none]; rfl
end
end Go.Eng
