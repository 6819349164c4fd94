/- A builder's row, its head frozen (its string was handed out): it is written behind what is frozen, within its capacity. No condition. -/
import Derived.Test.YtfmbgaaonfgenaaGreatDoorBld
import Derived.Lib.FrozenHead
namespace Go.Eng
set_option linter.unusedSimpArgs false
set_option linter.unusedVariables false
set_option linter.unusedSectionVars false
open Go.RowKit
section
variable {P : Program} {w0 : World} {n : Nat} {ops : Array Oper} {l : List Oper} {F : FL} {L : HL} {Q : Exit → Act → World → Prop} {o : Oper} {g : Bool} {v : Value} {x y z : Operand} {t t' : TypeId} {gx gy : Bool}
def IsFz (e : TypeId) (c : Nat) (l' : List UInt8) (o : Obj) : Prop := ∃ (cur : Array Value) (fz : Nat × Nat), o = .cells cur e fz ∧ cur.size = c ∧ l'.length ≤ c ∧ cur.toList.take l'.length = bytesV l' ∧ fz.2 ≤ l'.length
theorem IsFz.froze {w : World} {e : TypeId} {c g k : Nat} {l' : List UInt8} {ob : Obj} (h : w.heap[g]? = some ob) (hr : IsFz e c l' ob) (hk : k ≤ l'.length) : ∃ ob', (w.freeze ⟨g, 0, none⟩ k).heap[g]? = some ob' ∧ IsFz e c l' ob' := by
  obtain ⟨cur, ⟨lo, hi⟩, rfl, h1, h2, h3, h4⟩ := hr
  have h4' : hi ≤ l'.length := h4
  unfold World.freeze
  by_cases hk0 : k = 0
  · rw [if_pos hk0]; exact ⟨_, h, cur, _, rfl, h1, h2, h3, h4⟩
  · rw [if_neg hk0]
    refine ⟨_, by simp [Array.getElem?_modify, h]; rfl, cur, _, rfl, h1, h2, h3, ?_⟩
    split
    · show k ≤ _; omega
    · show max hi k ≤ _; omega
theorem S_fzRow (i : Nat) {e : TypeId} {g q c : Nat} {l' : List UInt8} (hL : L.get i = some (.own e 1 (.slice (some ⟨g, 0, none⟩) q c) q (bytesV l'))) (hK : S P w0 n ops l F ((i, .blk g (IsFz e c l')) :: L) Q) : S P w0 n ops l F L Q := fun a w hF hM => by
  refine hK a w hF (hM.turn (p' := .blk g (IsFz e c l')) hL ⟨rfl, rfl, rfl, Nat.le_refl _, fun _ _ _ => rfl⟩ ?_ (.inl rfl))
  obtain ⟨h1, h2⟩ : w.ownsRow w0.heap.size e 1 (.slice (some ⟨g, 0, none⟩) q c) q (bytesV l') := hM.sat i _ hL
  rcases h2 with ⟨h2, _⟩ | ⟨gb, cap, cur, hv, hb, hgb, hnc, _, hcs, htk⟩
  · cases h2
  · obtain rfl : g = gb := by injection hv with h _ _; injection h with h; injection h
    have hc : c = cap := by injection hv
    subst hc
    have hq : l'.length = q := by simpa [bytesV] using h1
    exact ⟨hb, _, hgb, cur, _, rfl, by omega, by omega, by rw [hq]; simpa using htk, Nat.zero_le _⟩
/-- bytes appended behind a frozen head: in place -/
theorem S_appendFz (d i : Nat) {e : TypeId} {q c g : Nat} {l' s : List UInt8} (hg : o.guard = none) (hd : o.dst = some d) (hdn : Nat.blt d n = true)
    (ho : o.op = .call { callee := .builtin .append, args := #[x, y], argTypes := #[t, t'] })
    (hx : F.ev x = some (true, .slice (some ⟨g, 0, none⟩) q c)) (hy : F.ev y = some (true, str s)) (hL : L.get i = some (.blk g (IsFz e c l')))
    (ht : P.underlying t = some (.slice e)) (hu : P.underlying t' = some .string) (hs : (P.info? e).map (fun i => (i.zero, i.size, i.bytes)) = some (some (.int .u8 0), 1, 1))
    (hq : l'.length = q) (hroom : q + s.length ≤ c)
    (hK : S P w0 n ops l ((d, true, .slice (some ⟨g, 0, none⟩) (q + s.length) c) :: F) ((i, .blk g (IsFz e c (l' ++ s))) :: L) Q) : S P w0 n ops (o :: l) F L Q :=
  S_loud d hg hd hdn fun a w hF hM => by
    subst hq
    have hx' : a.eval x = .slice (some ⟨g, 0, none⟩) l'.length c := by have := hF.eval hx; simpa using this
    have hy' : a.eval y = str s := by have := hF.eval hy; simpa using this
    obtain ⟨inf, hinf, hz, hsz, hby⟩ := info_parts hs
    obtain ⟨hb, ob, h1, cur, fz, rfl, h2, h3, h4, h5⟩ := hM.sat i _ hL
    have hss : (⟨s.toArray⟩ : ByteArray).size = s.length := str_size s
    have hsc := strCells_bytes s
    have hr := Lib.run_append_room_stringF (P := P) w t t' o.type e inf ht hu hinf hsz g l'.length c cur fz h1 h5 ⟨s.toArray⟩ (by rw [hss]; exact hroom) (by rw [hss]; omega)
    rw [hss, hsc] at hr
    have hbl : (bytesV s).length = s.length := by simp [bytesV]
    have hbl' : (bytesV l').length = l'.length := by simp [bytesV]
    have e1 : bytesV l' ++ bytesV s = bytesV (l' ++ s) := by simp [bytesV]
    refine ⟨_, w.setRow g (cur.toList.take l'.length ++ bytesV s ++ cur.toList.drop (l'.length + s.length)).toArray, _, ?_, hM.turn (p' := .blk g (IsFz e c (l' ++ s))) hL (grownBy_setRow _) ⟨hb, _, setRow_heap w g cur _ e fz h1, _, fz, rfl, ?_, ?_, ?_, ?_⟩ (.inl rfl), hK⟩
    · simp only [execOp, ho, resolve, invoke, builtin, Sem.run_bind, Sem.run_pure, Result.andThen_ok, List.map_toArray, List.map_cons, List.map_nil, hx', hy', str, hr]
    · simp only [List.size_toArray, List.length_append, List.length_take, List.length_drop, Array.length_toList]; omega
    · rw [List.length_append]; exact hroom
    · show (cur.toList.take l'.length ++ bytesV s ++ cur.toList.drop (l'.length + s.length)).take (l' ++ s).length = _
      rw [h4, e1]
      exact List.take_left' (by simp [bytesV])
    · rw [List.length_append]; omega
theorem S_unsafeStringFz (d i : Nat) {e : TypeId} {g q c : Nat} {l' : List UInt8} (hg : o.guard = none) (hd : o.dst = some d) (hdn : Nat.blt d n = true) (ho : o.op = .call { callee := .builtin .unsafeString, args := #[x, y], argTypes := #[t, t'] }) (hx : F.ev x = some (true, .pointer (some ⟨g, 0, none⟩))) (hy : F.ev y = some (true, .int .i64 (q : Int))) (hL : L.get i = some (.blk g (IsFz e c l')))
    (hq : l'.length = q) (h0 : 0 < q) (h63 : q ≤ 9223372036854775807) (ht : P.underlying t = some (.pointer e)) (hc : P.cellsOf e = 1) (hK : S P w0 n ops l ((d, true, str l') :: F) ((i, .blk g (IsFz e c l')) :: L) Q) : S P w0 n ops (o :: l) F L Q :=
  S_loud d hg hd hdn fun a w hF hM => by
    have hx' : a.eval x = .pointer (some ⟨g, 0, none⟩) := by have := hF.eval hx; simpa using this
    have hy' : a.eval y = .int .i64 (q : Int) := by have := hF.eval hy; simpa using this
    obtain ⟨hb, ob, h1, h2⟩ := hM.sat i _ hL
    obtain ⟨ob', h3, h4⟩ := IsFz.froze (k := l'.length) h1 h2 (Nat.le_refl _)
    obtain ⟨cur, fz, rfl, h5, h6, h7, h8⟩ := h2
    have hr := Lib.run_unsafeString_row (P := P) w t t' o.type e ht hc g cur.size (by simp [World.shape?, h1]) l' (by intro h; subst h; simp at hq; omega) (by omega) (by omega) (fun j x hj => by
      have h9 : (bytesV l')[j]? = some (.int .u8 (x.toNat : Int)) := by simp [bytesV, hj]
      rw [← h7, List.getElem?_take] at h9
      split at h9
      · rw [add_zero_off, Nat.zero_add]
        simp only [World.cell?, h1]
        simpa using h9
      · cases h9)
    subst hq
    refine ⟨str l', w.freeze ⟨g, 0, none⟩ l'.length, _, ?_, hM.turn (p' := .blk g (IsFz e c l')) hL freeze_grown ⟨hb, ob', h3, h4⟩ (.inl rfl), hK⟩
    simp only [execOp, ho, resolve, invoke, builtin, Sem.run_bind, Sem.run_pure, Result.andThen_ok, List.map_toArray, List.map_cons, List.map_nil, hx', hy', hr]
/-- min of three -/
theorem run_min_int3' {P : Program} {w : World} (ts : Array TypeId) (t : TypeId) (k k' k'' : IntKind) (x y z : Int) :
    (Builtin.min_ ts t #[.int k x, .int k' y, .int k'' z]).run P w = .ok (.int k (if z < (if y < x then y else x) then z else (if y < x then y else x))) w := by
  simp [Builtin.min_, Builtin.min2]
theorem y_min3 {k k' k'' : IntKind} {m p r : Int} {t'' : TypeId} (ho : o.op = .call { callee := .builtin .min, args := #[x, y, z], argTypes := #[t, t', t''] }) (hx : F.ev x = some (true, .int k m)) (hy : F.ev y = some (true, .int k' p)) (hz : F.ev z = some (true, .int k'' r)) : Y P w0 F L g o (.int k (if r < (if p < m then p else m) then r else (if p < m then p else m))) :=
  Y_of fun n a hF hg w _ => by
    have hx' : a.eval x = .int k m := by have := hF.eval hx; simpa using this
    have hy' : a.eval y = .int k' p := by have := hF.eval hy; simpa using this
    have hz' : a.eval z = .int k'' r := by have := hF.eval hz; simpa using this
    simp only [execOp, ho, resolve, invoke, builtin, Sem.run_bind, Sem.run_pure, Result.andThen_ok, List.map_toArray, List.map_cons, List.map_nil, hx', hy', hz', run_min_int3']
end
end Go.Eng
