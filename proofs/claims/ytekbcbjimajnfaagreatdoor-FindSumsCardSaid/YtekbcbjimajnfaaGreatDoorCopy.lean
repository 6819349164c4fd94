/- make([]T, n) and copy of elements of any size. No condition. -/
import Derived.Test.YtekbcbjimajnfaaGreatDoorMany
import Derived.Test.YtekbcbjimajnfaaGreatDoorApp
import Derived.Laws.OwnMore
import Derived.Laws.CopyRow
import Derived.Test.YtekbcbjimajnfaaGreatDoorStrs
namespace Go.Eng
open Go.RowKit
set_option linter.unusedVariables false
set_option linter.unusedSimpArgs false
section
variable {P : Program} {w0 : World} {n : Nat} {ops : Array Oper} {l : List Oper} {F : FL} {L : HL} {Q : Exit → Act → World → Prop} {o : Oper} {x y : Operand} {t t' : TypeId}
theorem run_copy_rowN (w : World) (dT sT ty elem : TypeId) (g o dLen dCap sz : Nat) (a : Addr) (sLen sCap : Nat) (cur : Array Value) (t : TypeId) (cs : List Value)
    (hu : P.underlying dT = some (.slice elem)) (hs : (P.info? elem).map (·.size) = some sz)
    (hg : w.heap[g]? = some (.cells cur t (0, 0))) (hn : cs.length = Nat.min sLen dLen * sz)
    (hsrc : ∀ j v, cs[j]? = some v → w.cell? (a.add j) = some v) (hfit : o + cs.length ≤ cur.size) (h1 : ∀ v ∈ cs, v.oneCell' = true) :
    (Builtin.copy_ #[dT, sT] ty #[.slice (some ⟨g, o, none⟩) dLen dCap, .slice (some a) sLen sCap]).run P w =
      .ok (goInt (Nat.min sLen dLen : Nat)) (w.setRow g (cur.toList.take o ++ cs ++ cur.toList.drop (o + cs.length)).toArray) := by
  have hl := run_loadCells_list (P := P) w a cs hsrc
  have hst := run_storeCells_at P g o t cs 0 cur w hg (by simpa using hfit) h1
  cases hq : P.info? elem with
  | none => simp [hq] at hs
  | some i =>
    have hi : i.size = sz := by simpa [hq] using hs
    simp [Builtin.copy_, run_underlying hu, Builtin.lenOf, Builtin.firstCells, sizeOf, typeInfo, hq, hi, ← hn, hl, hst]
theorem run_copy_noneN (w : World) (dT sT ty elem : TypeId) (d a : Option Addr) (dLen dCap sLen sCap : Nat) {sz : Nat} (hu : P.underlying dT = some (.slice elem)) (hs : (P.info? elem).map (·.size) = some sz) (hn : Nat.min sLen dLen = 0) :
    (Builtin.copy_ #[dT, sT] ty #[.slice d dLen dCap, .slice a sLen sCap]).run P w = .ok (goInt 0) w := by
  cases hq : P.info? elem with
  | none => simp [hq] at hs
  | some i =>
    have hl : ∀ (x : Addr), (loadCells x 0).run P w = .ok #[] w := fun x => by simpa using run_loadCells_list (P := P) w x [] (by simp)
    cases d <;> cases a <;> simp [Builtin.copy_, run_underlying hu, Builtin.lenOf, Builtin.firstCells, sizeOf, typeInfo, hq, hn, storeCells, hl]
theorem Mem.again {w : World} {i : Nat} {p : It} (h : Mem w0 L w) (hp : L.get i = some p) : Mem w0 ((i, p) :: L) w := by
  have g : ∀ j q, HL.get ((i, p) :: L) j = some q → L.get j = some q := fun j q hq => by
    rcases HL.get_cons hq with ⟨rfl, rfl⟩ | ⟨_, hq'⟩
    · exact hp
    · exact hq'
  exact ⟨h.below, fun j q hq => h.sat j q (g j q hq), fun j k q r hjk hq hr => h.apart j k q r hjk (g j q hq) (g k r hr)⟩
/-- make([]T, n): a row of ours. -/
theorem S_makeSlice (d i : Nat) {e : TypeId} {info : TypeInfo} {z : Value} {k k' : IntKind} {size q : Nat} {xs : List Value} (hg : o.guard = none) (hd : o.dst = some d) (hdn : Nat.blt d n = true) (ho : o.op = .makeSlice t x y)
    (hx : F.ev x = some (true, .int k (q : Int))) (hy : F.ev y = some (true, .int k' (q : Int))) (ht : P.underlying t = some (.slice e)) (hi : P.info? e = some info) (hz : info.zero = some z) (hs : info.size = size)
    (hb : info.bytes * q ≤ 281474976710656) (hm : q ≤ maxLen) (hxs : (madeCells z.cells (q * size)).toList = xs)
    (hK : ∀ b, S P w0 n ops l ((d, true, .slice (some ⟨b, 0, none⟩) q q) :: F) ((i, .own e size (.slice (some ⟨b, 0, none⟩) q q) q xs) :: L) Q) : S P w0 n ops (o :: l) F L Q := by
  refine S_loud d hg hd hdn fun a w hF hM => ?_
  have hx' : a.eval x = .int k (q : Int) := by have := hF.eval hx; simpa using this
  have hy' : a.eval y = .int k' (q : Int) := by have := hF.eval hy; simpa using this
  obtain ⟨w', h1, h2, h3⟩ := run_make_full (P := P) w w.heap.size t e info z size ht hi hz hs k k' q hb hm (Nat.le_refl _)
  subst hxs
  have hB : Below w.heap.size w w' := (Below.refl _ _).grown h3 (Nat.le_refl _) (fun k hk => by cases hk)
  exact ⟨_, w', _, by simp [execOp, ho, hx', hy', h1, Result.andThen], hM.gain hB i h2, hK _⟩
/-- copy of a slice that is read into a row of ours of the same length. -/
theorem S_copy (d i : Nat) {e e' : TypeId} {size q c c2 : Nat} {A A2 : Option Addr} {xs ys : List Value} (hg : o.guard = none) (hd : o.dst = some d) (hdn : Nat.blt d n = true)
    (ho : o.op = .call { callee := .builtin .copy, args := #[x, y], argTypes := #[t, t'] }) (hx : F.ev x = some (true, .slice A q c)) (hy : F.ev y = some (true, .slice A2 q c2))
    (hL : L.get i = some (.own e size (.slice A q c) q xs)) (ht : P.underlying t = some (.slice e')) (hz : (P.info? e').map (·.size) = some size)
    (hsrc : ∀ w, Mem w0 L w → SlR w size A2 q ys) (h1 : ∀ v ∈ ys, v.oneCell' = true)
    (hK : S P w0 n ops l ((d, true, .int .i64 (q : Int)) :: F) ((i, .own e size (.slice A q c) q ys) :: L) Q) : S P w0 n ops (o :: l) F L Q := by
  refine S_loud d hg hd hdn fun a w hF hM => ?_
  have hx' : a.eval x = .slice A q c := by have := hF.eval hx; simpa using this
  have hy' : a.eval y = .slice A2 q c2 := by have := hF.eval hy; simpa using this
  have hown : w.ownsRow w0.heap.size e size (.slice A q c) q xs := hM.sat i _ hL
  obtain ⟨hyl, hyr⟩ := hsrc w hM
  have hxl := hown.1
  have hmin : Nat.min q q = q := Nat.min_self q
  rcases Nat.eq_zero_or_pos q with h0 | hp
  · subst h0
    have hy0 : ys = [] := List.eq_nil_of_length_eq_zero (by simpa using hyl)
    have hx0 : xs = [] := List.eq_nil_of_length_eq_zero (by simpa using hxl)
    subst hy0; subst hx0
    have hr : (Builtin.copy_ #[t, t'] o.type #[.slice A 0 c, .slice A2 0 c2]).run P w = .ok (goInt 0) w := run_copy_noneN w t t' o.type e' A A2 0 c 0 c2 ht hz rfl
    exact ⟨_, w, _, by simp [execOp, ho, resolve, invoke, builtin, hx', hy', hr, Result.andThen]; rfl, hM.again hL, hK⟩
  · rcases hown.2 with ⟨_, h0⟩ | ⟨gb, cap, cur, hvv, hb, hgb, hnc, hcm, hsz, ht'⟩
    · omega
    · have hA : A = some ⟨gb, 0, none⟩ := by injection hvv
      have hc' : c = cap := by injection hvv
      subst hA; subst hc'
      obtain ⟨ad, rfl, _, hcell⟩ := hyr hp
      have hqc : q * size ≤ c * size := Nat.mul_le_mul_right size hnc
      have hr := run_copy_rowN (P := P) w t t' o.type e' gb 0 q c size ad q c2 cur e ys ht hz hgb (by rw [hmin]; exact hyl) hcell (by omega) h1
      rw [hmin] at hr
      refine ⟨.int .i64 (q : Int), w.setRow gb (cur.toList.take 0 ++ ys ++ cur.toList.drop (0 + ys.length)).toArray, _, ?_, hM.turn (p' := .own e size (.slice (some ⟨gb, 0, none⟩) q c) q ys) hL (by simpa [It.foot, Value.ownBlock] using grownBy_setRow _) ?_ (.inl rfl), hK⟩
      · simp only [execOp, ho, resolve, invoke, builtin, List.size_toArray, hx', hy']
        simp [hr, Result.andThen, hx', hy', goInt]
      · refine ⟨hyl, .inr ⟨gb, c, _, rfl, hb, setRow_heap w gb cur _ e (0, 0) hgb, hnc, hcm, ?_, ?_⟩⟩
        · simp; omega
        · simp [hyl]
theorem results_cell1 {fn : Func} {p : Tmp} {ty : TypeId} (h : fn.results = #[.cell p ty]) (tmps : Array Value) (P : Program) (w : World) :
    (results fn tmps).run P w = ((asAddr (tmps.getD p undef)).run P w).andThen fun a w₁ => (loadVar ty a).run P w₁ := by
  simp only [results, h]
  simp [Sem.run_bind]
/-- a result that is a variable's cells -/
theorem post_cell1 {fn : Func} {R : Ending → World → Prop} (i : Nat) {p b : Nat} {ty tb : TypeId} {d : TypeDesc} {cs : List Value} (h : fn.results = #[.cell p ty]) (hp : F.get p = some (true, .pointer (some ⟨b, 0, none⟩))) (hL : L.get i = some (.blk b (IsBox cs tb)))
    (hty : P.underlying ty = some d) (hd : isAggB d = true) (hz : (P.info? ty).map (·.size) = some cs.length) (hR : ∀ w, Mem w0 L w → R (.returned (.agg cs.toArray)) w) : ∀ a w, Fr n F a → Mem w0 L w → bodyPost P fn R .ret a w := fun a w hF hM => by
  have e1 := hF.has p true _ hp
  simp only [cond_true] at e1
  obtain ⟨_, ob, h1, h2⟩ := hM.sat i _ hL
  have hl := run_loadVarA hty hd hz w (a := ⟨b, 0, none⟩) (fun j u hu' => by rw [add_zero_off, Nat.zero_add, cell_of_box h1 h2, nth_eq]; exact hu')
  refine ⟨hF.defers, .agg cs.toArray, ?_, hR w hM⟩
  rw [results_cell1 h, e1]
  simp only [Instr.loadAt, Instr.sureAddr, Sem.run_bind, Sem.run_pure, Result.andThen_ok] at hl
  simp [asAddr, hl]
end
end Go.Eng
