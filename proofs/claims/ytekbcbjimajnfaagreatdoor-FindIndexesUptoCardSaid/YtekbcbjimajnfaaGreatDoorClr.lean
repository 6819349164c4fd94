/- clear of the tail of a row of ours: the row is then its head. A sub-slice of such a row, and its elements. Conditions: those of each theorem. -/
import Derived.Test.YtekbcbjimajnfaaGreatDoorSwp
namespace Go.Eng
set_option linter.unusedSimpArgs false
set_option linter.unusedVariables false
open Go.RowKit
section
variable {P : Program} {w0 : World} {n : Nat} {ops : Array Oper} {l : List Oper} {F : FL} {L : HL} {Q : Exit → Act → World → Prop} {o : Oper} {g : Bool} {v : Value} {x y z : Operand} {t t' : TypeId} {gx gy : Bool}
theorem S_muteV (hg : o.guard = none) (hd : o.dst = none)
    (h : ∀ a w, Fr n F a → Mem w0 L w → ∃ v w' L', (execOp a.eval o).run P w = .ok (.value v) w' ∧ Mem w0 L' w' ∧ S P w0 n ops l F L' Q) : S P w0 n ops (o :: l) F L Q := by
  intro a w hF hM
  obtain ⟨v, w', L', hr, hM', hS⟩ := h a w hF hM
  refine wpList_plain hg fun K hK => ?_
  unfold Oper.wp
  rw [hr]
  refine hK _ _ (hS _ _ ?_ hM')
  rw [hd]
  exact hF
theorem run_clear0 (w : World) (t ty : TypeId) (d : TypeDesc) (A : Option Addr) (c : Nat) (ht : P.underlying t = some d) : (Builtin.clear_ #[t] ty #[.slice A 0 c]).run P w = .ok (.tuple #[]) w := by
  cases A <;> cases d <;> simp [Builtin.clear_, run_underlying ht, Sem.run_bind, Sem.run_pure, Result.andThen]
theorem run_clearN (w : World) (t ty e' : TypeId) (a : Addr) (m c : Nat) (zv : Value) (ht : P.underlying t = some (.slice e')) (hz : ∀ w, (zeroValue e').run P w = .ok zv w) (w' : World) (hs : (storeCells a (Builtin.zeroCells zv.cells (m + 1)).toList).run P w = .ok () w') : (Builtin.clear_ #[t] ty #[.slice (some a) (m + 1) c]).run P w = .ok (.tuple #[]) w' := by
  simp [Builtin.clear_, run_underlying ht, Sem.run_bind, Sem.run_pure, Result.andThen, hz, hs]
theorem zeroCells_len (zs : Array Value) (m : Nat) : (Builtin.zeroCells zs m).toList.length = m * zs.size := by simp [Builtin.zeroCells]
theorem zeroCells_one {zs : Array Value} (h : (zs.toList.all fun v => v.oneCell') = true) (m : Nat) : ∀ v ∈ (Builtin.zeroCells zs m).toList, v.oneCell' = true := fun v hv => by
  simp only [Builtin.zeroCells, Array.toList_map, List.mem_map] at hv
  obtain ⟨i, hi, rfl⟩ := hv
  simp only [Array.toList_range, List.mem_range] at hi
  have hp : 0 < zs.size := by
    rcases Nat.eq_zero_or_pos zs.size with h0 | h0
    · rw [h0] at hi; omega
    · exact h0
  have hlt : i % zs.size < zs.size := Nat.mod_lt _ hp
  rw [getElem!_pos zs _ hlt]
  exact List.all_eq_true.1 h _ (by simp)
theorem S_clearTail (i k : Nat) {A : Option Addr} {q c size : Nat} {e e' : TypeId} {zv : Value} {xs : List Value} (hg : o.guard = none) (hd : o.dst = none) (ho : o.op = .call { callee := .builtin .clear, args := #[x], argTypes := #[t] })
    (hx : F.ev x = some (true, .slice (if c = k then A else A.map (·.add (k * size))) (q - k) (c - k))) (hL : L.get i = some (.own e size (.slice A q c) q xs)) (hk : k ≤ q) (ht : P.underlying t = some (.slice e')) (hz : ∀ w, (zeroValue e').run P w = .ok zv w) (hzs : zv.cells.size = size) (h1 : (zv.cells.toList.all fun v => v.oneCell') = true)
    (hK : S P w0 n ops l F ((i, .own e size (.slice A k c) k (xs.take (k * size))) :: L) Q) : S P w0 n ops (o :: l) F L Q := by
  rcases Nat.eq_zero_or_pos (q - k) with h0 | h0
  · have hkq : k = q := by omega
    subst hkq
    refine S_muteV hg hd fun a w hF hM => ?_
    have hx' : a.eval x = .slice (if c = k then A else A.map (·.add (k * size))) 0 (c - k) := by have := hF.eval hx; rw [Nat.sub_self] at this; simpa using this
    have hown : w.ownsRow w0.heap.size e size (.slice A k c) k xs := hM.sat i _ hL
    refine ⟨.tuple #[], w, _, ?_, hM.again hL, ?_⟩
    · simp [execOp, ho, resolve, invoke, builtin, hx', run_clear0 w t o.type _ _ _ ht, Result.andThen]
    · rw [List.take_of_length_le (by rw [hown.1]; exact Nat.le_refl _)] at hK
      exact hK
  · refine S_muteV hg hd fun a w hF hM => ?_
    have hown : w.ownsRow w0.heap.size e size (.slice A q c) q xs := hM.sat i _ hL
    have hlen := hown.1
    rcases hown.2 with ⟨hvv, hn⟩ | ⟨gb, cap, cur, hvv, hb, hgb, hnc, hcm, hsz, ht'⟩
    · have hq0 : q = 0 := by injection hvv
      omega
    · have hA : A = some ⟨gb, 0, none⟩ := by injection hvv
      have hc' : c = cap := by injection hvv
      subst hA; subst hc'
      obtain ⟨m, hm⟩ : ∃ m, q - k = m + 1 := ⟨q - k - 1, by omega⟩
      have hx' : a.eval x = .slice (some (⟨gb, k * size, none⟩ : Addr)) (m + 1) (c - k) := by
        have := hF.eval hx
        rw [if_neg (by omega), hm] at this
        simpa [add_zero_off] using this
      have hqc : q * size ≤ c * size := Nat.mul_le_mul_right size hnc
      have hkc : k * size + (m + 1) * size = q * size := by rw [← Nat.add_mul]; congr 1; omega
      have hzl := zeroCells_len zv.cells (m + 1)
      rw [hzs] at hzl
      have hst := run_storeCells_at P gb (k * size) e (Builtin.zeroCells zv.cells (m + 1)).toList 0 cur w hgb (by rw [hzl]; omega) (zeroCells_one h1 _)
      refine ⟨.tuple #[], w.setRow gb (cur.toList.take (k * size + 0) ++ (Builtin.zeroCells zv.cells (m + 1)).toList ++ cur.toList.drop (k * size + 0 + (Builtin.zeroCells zv.cells (m + 1)).toList.length)).toArray, _, ?_, hM.turn (p' := .own e size (.slice (some ⟨gb, 0, none⟩) k c) k (xs.take (k * size))) hL (by simpa [It.foot, Value.ownBlock] using grownBy_setRow _) ?_ (.inl rfl), hK⟩
      · have hr := run_clearN (P := P) w t o.type e' ⟨gb, k * size, none⟩ m (c - k) zv ht hz _ hst
        simp [execOp, ho, resolve, invoke, builtin, hx', hr, Result.andThen]
      · have hcl : cur.toList.length = c * size := by simpa using hsz
        refine ⟨by rw [List.length_take, hlen]; omega, .inr ⟨gb, c, _, rfl, hb, setRow_heap w gb cur _ e (0, 0) hgb, by omega, hcm, ?_, ?_⟩⟩
        · simp only [List.size_toArray, List.length_append, List.length_take, List.length_drop, hzl, hcl]; omega
        · simp only [Nat.add_zero]
          rw [List.append_assoc, List.take_append_of_le_length (by rw [List.length_take]; omega), List.take_take, Nat.min_self, ← ht', List.take_take, Nat.min_eq_left (by omega)]
theorem slice0 {A : Option Addr} {c s : Nat} : (if c = 0 then A else A.map (·.add (0 * s))) = A := by
  split
  · rfl
  · cases A <;> simp [Addr.add]
theorem own_cap {w : World} {e : TypeId} {s q c i : Nat} {A : Option Addr} {xs : List Value} (hM : Mem w0 L w) (hL : L.get i = some (.own e s (.slice A q c) q xs)) : q ≤ c := by
  have h : w.ownsRow w0.heap.size e s (.slice A q c) q xs := hM.sat i _ hL
  rcases h.2 with ⟨hvv, h0⟩ | ⟨gb, cap, cur, hvv, _, _, hnc, _⟩
  · omega
  · have : c = cap := by injection hvv
    omega
theorem T_cap {k : Code} (i : Nat) {e : TypeId} {size q c : Nat} {A : Option Addr} {xs : List Value} (hL : L.get i = some (.own e size (.slice A q c) q xs)) (h : q ≤ c → T P w0 n k F L Q) : T P w0 n k F L Q :=
  fun a w hF hM => h (own_cap hM hL) a w hF hM
end
end Go.Eng
