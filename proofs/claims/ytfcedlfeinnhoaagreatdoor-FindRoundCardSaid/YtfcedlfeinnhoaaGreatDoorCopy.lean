/- make([]T, n) and copy of elements of any size. No condition. -/
import Derived.Test.YtfcedlfeinnhoaaGreatDoorMany
import Derived.Test.YtfcedlfeinnhoaaGreatDoorApp
import Derived.Laws.OwnMore
import Derived.Laws.CopyRow
import Derived.Test.YtfcedlfeinnhoaaGreatDoorStrs
namespace Go.Eng
open Go.RowKit
set_option linter.unusedVariables false
set_option linter.unusedSimpArgs false
section
variable {P : Program} {w0 : World} {n : Nat} {ops : Array Oper} {l : List Oper} {F : FL} {L : HL} {Q : Exit → Act → World → Prop} {o : Oper} {x y : Operand} {t t' : TypeId}
theorem run_copy_rowN (w : World) (dT sT ty elem : TypeId) (g o dLen dCap sz : Nat) (a : Addr) (sLen sCap : Nat) (cur : Array Value) (t : TypeId) (cs : List Value)
    (hu : P.underlying dT = some (.slice elem)) (hs : (P.info? elem).map (·.size) = some sz)
    (hg : w.heap[g]? = some (.cells cur t (0, 0))) (hn : cs.length = Nat.min sLen dLen * sz)
    (hsrc : ∀ j v, cs[j]? = some v → w.cell? (a.add j) = some v) (hfit : o + cs.length ≤ cur.size) (h1 : ∀ v ∈ cs, v.oneCell' = true) :
    (Builtin.copy_ #[dT, sT] ty #[.slice (some ⟨g, o, none⟩) dLen dCap, .slice (some a) sLen sCap]).run P w =
      .ok (goInt (Nat.min sLen dLen : Nat)) (w.setRow g (cur.toList.take o ++ cs ++ cur.toList.drop (o + cs.length)).toArray) := by
  have hl := run_loadCells_list (P := P) w a cs hsrc
  have hst := run_storeCells_at P g o t cs 0 cur w hg (by simpa using hfit) h1
  cases hq : P.info? elem with
  | none => simp [hq] at hs
  | some i =>
    have hi : i.size = sz := by simpa [hq] using hs
    simp [Builtin.copy_, run_underlying hu, Builtin.lenOf, Builtin.firstCells, sizeOf, typeInfo, hq, hi, ← hn, hl, hst]
/-- make([]T, n): a row of ours. -/
theorem S_makeSlice (d i : Nat) {e : TypeId} {info : TypeInfo} {z : Value} {k k' : IntKind} {size q : Nat} {xs : List Value} (hg : o.guard = none) (hd : o.dst = some d) (hdn : Nat.blt d n = true) (ho : o.op = .makeSlice t x y)
    (hx : F.ev x = some (true, .int k (q : Int))) (hy : F.ev y = some (true, .int k' (q : Int))) (ht : P.underlying t = some (.slice e)) (hi : P.info? e = some info) (hz : info.zero = some z) (hs : info.size = size)
    (hb : info.bytes * q ≤ 281474976710656) (hm : q ≤ maxLen) (hxs : (madeCells z.cells (q * size)).toList = xs)
    (hK : ∀ b, S P w0 n ops l ((d, true, .slice (some ⟨b, 0, none⟩) q q) :: F) ((i, .own e size (.slice (some ⟨b, 0, none⟩) q q) q xs) :: L) Q) : S P w0 n ops (o :: l) F L Q := by
  refine S_loud d hg hd hdn fun a w hF hM => ?_
  have hx' : a.eval x = .int k (q : Int) := by have := hF.eval hx; simpa using this
  have hy' : a.eval y = .int k' (q : Int) := by have := hF.eval hy; simpa using this
  obtain ⟨w', h1, h2, h3⟩ := run_make_full (P := P) w w.heap.size t e info z size ht hi hz hs k k' q hb hm (Nat.le_refl _)
  subst hxs
  have hB : Below w.heap.size w w' := (Below.refl _ _).grown h3 (Nat.le_refl _) (fun k hk => by cases hk)
  exact ⟨_, w', _, by simp [execOp, ho, hx', hy', h1, Result.andThen], hM.gain hB i h2, hK _⟩
/-- a pointer to an element of a row of ours is not nil -/
theorem y_nilCheckOwn (k : Nat) {A : Option Addr} {q c j size : Nat} {e : TypeId} {xs : List Value} {g gx : Bool} (ho : o.op = .nilCheck x) (hx : F.ev x = some (gx, .pointer (at_ A j size))) (hL : L.get k = some (.own e size (.slice A q c) q xs)) (hj : g = true → j < q)
    (hi : g = true → gx = true := by first | exact (fun _ => rfl) | exact (fun h => h) | exact (fun h => (Bool.and_eq_true_iff.1 h).1) | simp_all) : Y P w0 F L g o (.pointer (at_ A j size)) :=
  Y_of fun n a hF hg w hM => by
    obtain ⟨ad, rfl, _⟩ := (own_reads hM hL).2 (by have := hj hg; omega)
    simp only [execOp, ho, hF.eval_on hx hg hi, at_, Option.map_some]; rfl
theorem results_cell1 {fn : Func} {p : Tmp} {ty : TypeId} (h : fn.results = #[.cell p ty]) (tmps : Array Value) (P : Program) (w : World) :
    (results fn tmps).run P w = ((asAddr (tmps.getD p undef)).run P w).andThen fun a w₁ => (loadVar ty a).run P w₁ := by
  simp only [results, h]
  simp [Sem.run_bind]
/-- a result that is a variable's cells -/
theorem post_cell1 {fn : Func} {R : Ending → World → Prop} (i : Nat) {p b : Nat} {ty tb : TypeId} {d : TypeDesc} {cs : List Value} (h : fn.results = #[.cell p ty]) (hp : F.get p = some (true, .pointer (some ⟨b, 0, none⟩))) (hL : L.get i = some (.blk b (IsBox cs tb)))
    (hty : P.underlying ty = some d) (hd : isAggB d = true) (hz : (P.info? ty).map (·.size) = some cs.length) (hR : ∀ w, Mem w0 L w → R (.returned (.agg cs.toArray)) w) : ∀ a w, Fr n F a → Mem w0 L w → bodyPost P fn R .ret a w := fun a w hF hM => by
  have e1 := hF.has p true _ hp
  simp only [cond_true] at e1
  obtain ⟨_, ob, h1, h2⟩ := hM.sat i _ hL
  have hl := run_loadVarA hty hd hz w (a := ⟨b, 0, none⟩) (fun j u hu' => by rw [add_zero_off, Nat.zero_add, cell_of_box h1 h2, nth_eq]; exact hu')
  refine ⟨hF.defers, .agg cs.toArray, ?_, hR w hM⟩
  rw [results_cell1 h, e1]
  simp only [Instr.loadAt, Instr.sureAddr, Sem.run_bind, Sem.run_pure, Result.andThen_ok] at hl
  simp [asAddr, hl]
end
end Go.Eng
