/- A string's bytes as a row that is read and written: the conversion, loads, stores. No condition. -/
import Derived.Test.YtekbcbjimajnfaaGreatDoorByt
namespace Go.Eng
set_option linter.unusedSimpArgs false
set_option linter.unusedVariables false
open Go.RowKit
section
variable {P : Program} {w0 : World} {n : Nat} {ops : Array Oper} {l : List Oper} {F : FL} {L : HL} {Q : Exit → Act → World → Prop} {o : Oper} {g : Bool} {v : Value} {x y z : Operand} {t t' : TypeId} {gx gy : Bool}
/-- a row of bytes that came of a string: its cells may be written, behind them lies what is frozen -/
def IsRw (e : TypeId) (bs : List Value) (o : Obj) : Prop := ∃ (cur : Array Value) (fz : Nat × Nat), o = .cells cur e fz ∧ bs.length ≤ cur.size ∧ cur.size ≤ fz.1 ∧ ∀ (j : Nat) (u : Value), bs[j]? = some u → cur[j]? = some u
theorem add_zero_off' (a0 : Addr) : a0.add 0 = a0 := by simp [Addr.add]
theorem run_store1 {ty : TypeId} {a0 : Addr} {u : Value} {w : World} (hz : (P.info? ty).map (·.size) = some 1) (hv : v.cells = #[v]) (h1 : v.oneCell' = true) (hc : w.cell? a0 = some u) (hf : w.frozen? a0 = false) :
    (storeVar ty a0 v).run P w = .ok () (w.setCell a0 v) := by
  cases hq : P.info? ty with
  | none => simp [hq] at hz
  | some j =>
    simp only [hq, Option.map_some, Option.some.injEq] at hz
    simp [storeVar, sizeOf, typeInfo, hq, hz, hv, storeCells]
    rw [add_zero_off']
    rcases v with _ | _ | _ | _ | _ | _ | _ | _ | _ | _ | _ | _ | _ | _ | _ | _ | _ | _ | _ <;> first | (simp [store, Sem.run, hc, hf]; done) | (simp [Value.oneCell'] at h1; done) | (simp at hv; done)
theorem S_strBytesW (d i : Nat) {src dst e : TypeId} {s : List UInt8} (hg : o.guard = none) (hd : o.dst = some d) (hdn : Nat.blt d n = true) (ho : o.op = .convert src dst x) (hx : F.ev x = some (true, str s)) (hs : P.underlying src = some .string) (ht : P.underlying dst = some (.slice e)) (he : P.underlying e = some (.int .u8))
    (hK : ∀ b c, S P w0 n ops l ((d, true, .slice (some ⟨b, 0, none⟩) s.length c) :: F) ((i, .blk b (IsRw e (bytesV s))) :: L) Q) : S P w0 n ops (o :: l) F L Q :=
  S_loud d hg hd hdn fun a w hF hM => by
    have hx' : a.eval x = .string ⟨s.toArray⟩ := by have := hF.eval hx; simpa using this
    have hr := Lib.run_convert_string_bytes (P := P) w src dst e ⟨s.toArray⟩ hs ht he
    have hB : Below w.heap.size w (Lib.bytesWorld w e ⟨s.toArray⟩) := ⟨rfl, rfl, rfl, by rw [Lib.bytesWorld_size]; omega, fun k hk => Lib.bytesWorld_at_old w e _ k hk⟩
    refine ⟨_, _, _, ?_, hM.gainB hB i (IsRw e (bytesV s)) (Lib.bytesWorld_at_new w e ⟨s.toArray⟩) ⟨_, _, rfl, by simp [Lib.bytesCells, bytesV], Nat.le_refl _, fun j u hu => ?_⟩, hK w.heap.size (grownCap w s.length 0 e)⟩
    · simp only [execOp, ho, hx', Sem.run_bind, hr, Result.andThen_ok, Sem.run_pure]
      rfl
    · have hj := (List.getElem?_eq_some_iff.1 hu).1
      have hj' : j < s.length := by simpa [bytesV] using hj
      rw [← hu]
      simp [Lib.bytesCells, bytesV, Array.getElem?_append, hj']
theorem S_storeRw (i : Nat) {b j : Nat} {bs : List Value} {ty e : TypeId} (hg : o.guard = none) (hd : o.dst = none) (ho : o.op = .store ty x y) (hx : F.ev x = some (true, .pointer (at_ (some ⟨b, 0, none⟩) j 1))) (hy : F.ev y = some (true, v))
    (hL : L.get i = some (.blk b (IsRw e bs))) (hz : (P.info? ty).map (·.size) = some 1) (h1 : v.oneCell' = true) (hv : v.cells = #[v]) (hj : j < bs.length)
    (hK : S P w0 n ops l F ((i, .blk b (IsRw e (bs.set j v))) :: L) Q) : S P w0 n ops (o :: l) F L Q :=
  S_mute hg hd fun a w hF hM => by
    have hx' := hF.eval hx
    simp only [cond_true] at hx'
    have hy' : a.eval y = v := by have := hF.eval hy; simpa using this
    obtain ⟨hb, ob, g1, cur, fz, rfl, g2, g3, g4⟩ := hM.sat i _ hL
    have ha : at_ (some (⟨b, 0, none⟩ : Addr)) j 1 = some ⟨b, j, none⟩ := by simp [at_, add_zero_off]
    rw [ha] at hx'
    have hlt := (Array.getElem?_eq_some_iff.1 g1).1
    have hc : w.cell? (⟨b, j, none⟩ : Addr) = some (bs[j]) := by
      simp only [World.cell?, g1]
      exact g4 j _ (by simp [hj])
    have hf : w.frozen? (⟨b, j, none⟩ : Addr) = false := by
      simp only [World.frozen?, g1]
      simp; omega
    have hr := run_store1 (P := P) (w := w) hz hv h1 hc hf
    have hgr : w.grownBy (w.setCell ⟨b, j, none⟩ v) (some b) := ⟨rfl, rfl, rfl, by simp [World.setCell], fun k _ hne => by
      show (w.heap.modify b _)[k]? = _
      rw [Array.getElem?_modify]
      have : ¬ b = k := fun e => hne (by rw [e])
      simp [this]⟩
    have hnew : (w.setCell ⟨b, j, none⟩ v).heap[b]? = some (.cells (cur.setIfInBounds j v) e fz) := by
      show (w.heap.modify b _)[b]? = _
      rw [Array.getElem?_modify, g1]
      simp
    refine ⟨_, _, ?_, hM.turn (p' := .blk b (IsRw e (bs.set j v))) hL hgr ⟨hb, _, hnew, _, _, rfl, by simp; omega, by simp; omega, fun k u hu => ?_⟩ (.inl rfl), hK⟩
    · simp only [execOp, ho, hx', hy', Instr.storeAt, Instr.sureAddr, Sem.run_bind, Sem.run_pure, Result.andThen_ok, hr]
    · rw [Array.getElem?_setIfInBounds]
      rw [List.getElem?_set] at hu
      split at hu
      · rename_i e
        subst e
        first | (rw [if_pos rfl, if_pos (by omega)]) | (rw [if_pos rfl]) | skip
        first | (rw [if_pos hj] at hu; exact hu) | exact hu | (simp_all)
      · rename_i e
        rw [if_neg e]; exact g4 k u hu
theorem y_loadRw (i : Nat) {b j : Nat} {bs : List Value} {ty e : TypeId} {d : TypeDesc} (ho : o.op = .load ty x) (hx : F.ev x = some (gx, .pointer (at_ (some ⟨b, 0, none⟩) j 1))) (hL : L.get i = some (.blk b (IsRw e bs))) (hv : g = true → bs[j]? = some v)
    (hu : P.underlying ty = some d) (hd : isAggB d = false) (hi : g = true → gx = true := by first | exact (fun _ => rfl) | exact (fun h => h) | exact (fun h => (Bool.and_eq_true_iff.1 h).1) | simp_all) : Y P w0 F L g o v :=
  Y_of fun n a hF hg w hM => by
    obtain ⟨_, ob, h1, cur, fz, rfl, _, _, h2⟩ := hM.sat i _ hL
    have hc : w.cell? (⟨b, j, none⟩ : Addr) = some v := by
      simp only [World.cell?, h1]
      exact h2 j v (hv hg)
    have ha : at_ (some (⟨b, 0, none⟩ : Addr)) j 1 = some ⟨b, j, none⟩ := by simp [at_, add_zero_off]
    rw [ha] at hx
    simp only [execOp, ho, hF.eval_on hx hg hi, Sem.run_bind, run_loadVar1 hu hd w hc]; rfl
theorem y_str_rw (i : Nat) {src dst e eb : TypeId} {b q c : Nat} (l : List UInt8) (ho : o.op = .convert src dst x) (hx : F.ev x = some (gx, .slice (some ⟨b, 0, none⟩) q c)) (hL : L.get i = some (.blk b (IsRw eb (bytesV l)))) (hq : q = l.length)
    (hs : P.underlying src = some (.slice e)) (he : P.underlying e = some (.int .u8)) (hd : P.underlying dst = some .string) (hi : g = true → gx = true := by first | exact (fun _ => rfl) | exact (fun h => h) | exact (fun h => (Bool.and_eq_true_iff.1 h).1) | simp_all) : Y P w0 F L g o (str l) :=
  Y_of fun n a hF hg w hM => by
    subst hq
    obtain ⟨_, ob, h1, cur, fz, rfl, _, _, h2⟩ := hM.sat i _ hL
    have hr : (convert src dst (.slice (some ⟨b, 0, none⟩) l.length c)).run P w = .ok (str l) w := by
      refine run_convert_bytes_back w src dst e _ c l hs he hd fun j hj => ?_
      rw [add_zero_off]
      simp only [World.cell?, h1, Nat.zero_add]
      exact h2 j _ (by simp [bytesV, hj])
    simp only [execOp, ho, hF.eval_on hx hg hi, Sem.run_bind, hr]; rfl
end
end Go.Eng
