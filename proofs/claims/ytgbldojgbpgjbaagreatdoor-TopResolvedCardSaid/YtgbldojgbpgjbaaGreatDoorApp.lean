/- Slices appended from wherever they lie, made, shortened, asked for nil. No condition. -/
import Derived.Test.YtgbldojgbpgjbaaGreatDoorEqS
namespace Go.Eng
set_option linter.unusedSimpArgs false
set_option linter.unusedVariables false
set_option linter.unusedSectionVars false
open Go.RowKit
section
variable {P : Program} {w0 : World} {n : Nat} {ops : Array Oper} {l : List Oper} {F : FL} {L : HL} {Q : Exit → Act → World → Prop} {o : Oper} {g : Bool} {v : Value} {x y z : Operand} {t t' : TypeId} {gx gy : Bool}
theorem run_append0 {w : World} {e ty : TypeId} {inf : TypeInfo} {A B : Option Addr} {q c c' : Nat} (ht : P.underlying t = some (.slice e)) (hi : P.info? e = some inf) (hle : q ≤ c) : (Builtin.append_ #[t, t] ty #[.slice B q c, .slice A 0 c']).run P w = .ok (.slice B q c) w := by
  cases A <;> cases B <;> simp [Builtin.append_, run_underlying ht, sizeOf, typeInfo, hi, Builtin.lenOf, hle, Builtin.firstCells, loadCells, storeCells] <;> rfl
/-- append onto a row of ours of a slice that is read where it lies. -/
theorem S_appendG (d i : Nat) {e : TypeId} {info : TypeInfo} {z : Value} {size bytes q m c : Nat} {A : Option Addr} {xs news : List Value} (hg : o.guard = none) (hd : o.dst = some d) (hdn : Nat.blt d n = true)
    (ho : o.op = .call { callee := .builtin .append, args := #[x, y], argTypes := #[t, t] })
    (hx : F.ev x = some (true, v)) (hy : F.ev y = some (true, .slice A m c)) (hLi : L.get i = some (.own e size v q xs)) (hrd : ∀ w, Mem w0 L w → SlR w size A m news)
    (ht : P.underlying t = some (.slice e)) (hi : P.info? e = some info) (hz : info.zero = some z) (hsize : info.size = size) (hby : info.bytes = bytes) (hzs : z.cells.size = size) (hsz : 0 < size) (h1 : allOne news = true)
    (h63 : q + m ≤ maxLen) (hbytes : (q + m) * bytes ≤ 140737488355328) (q' : Nat) (xs' : List Value) (hq : q + m = q') (hxs : xs ++ news = xs')
    (hK : ∀ A' c', S P w0 n ops l ((d, true, .slice A' q' c') :: F) ((i, .own e size (.slice A' q' c') q' xs') :: L) Q) : S P w0 n ops (o :: l) F L Q :=
  S_loud d hg hd hdn fun a w hF hM => by
    subst hq; subst hxs
    have hx' : a.eval x = v := by have := hF.eval hx; simpa using this
    have hy' : a.eval y = .slice A m c := by have := hF.eval hy; simpa using this
    have hown : w.ownsRow w0.heap.size e size v q xs := hM.sat i _ hLi
    obtain ⟨hl, hr⟩ := hrd w hM
    by_cases hm : 0 < m
    · obtain ⟨ad, rfl, _, hcells⟩ := hr hm
      obtain ⟨v', w', hrun, h2, h3, _, h5⟩ := run_append_own_at (P := P) w w0.heap.size t o.type e info z size bytes ht hi hz hsize hby hzs hsz v q xs hown ad m c news hl hcells (allOne_mem h1) h63 hbytes hM.size
      refine ⟨v', w', _, ?_, hM.turn (p' := .own e size v' (q + m) (xs ++ news)) hLi h3 h2 ?_, ?_⟩
      rotate_left 2
      · obtain ⟨A', c', rfl⟩ := own_form h2
        exact hK A' c'
      · simp only [execOp, ho, resolve, invoke, builtin, Sem.run_bind, Sem.run_pure, Result.andThen_ok, List.map_toArray, List.map_cons, List.map_nil, hx', hy', hrun]
      · rcases h5 with h5 | h5
        · exact .inl h5
        · refine .inr fun b hb => ?_
          have : some b = some w.heap.size := hb.symm.trans h5
          injection this with this
          omega
    · have hm0 : m = 0 := by omega
      subst hm0
      have hn : news = [] := List.eq_nil_of_length_eq_zero (by simpa using hl)
      subst hn
      obtain ⟨B, cb, rfl⟩ := own_form hown
      have hle : q ≤ cb := by
        rcases hown.2 with ⟨hv, h0⟩ | ⟨gb, cap, cur, hv, _, _, hnc, _⟩
        · omega
        · have : cb = cap := by injection hv
          omega
      have hK' := hK B cb
      simp only [Nat.add_zero, List.append_nil] at hK'
      refine ⟨.slice B q cb, w, (i, .own e size (.slice B q cb) q xs) :: L, ?_, ?_, hK'⟩
      · simp only [execOp, ho, resolve, invoke, builtin, Sem.run_bind, Sem.run_pure, Result.andThen_ok, List.map_toArray, List.map_cons, List.map_nil, hx', hy', run_append0 ht hi hle]
      · refine hM.ren id (fun j p hj => ?_) (fun _ _ _ _ _ _ h => h)
        rcases HL.get_cons hj with ⟨rfl, rfl⟩ | ⟨_, h⟩
        · exact hLi
        · exact h
/-- '[]T{}' -/
theorem S_buildSlice0 (d i : Nat) {e : TypeId} {size : Nat} (hg : o.guard = none) (hd : o.dst = some d) (hdn : Nat.blt d n = true) (ho : o.op = .buildSlice t 0 #[]) (ht : P.underlying t = some (.slice e)) (hz : (P.info? e).map (·.size) = some size)
    (hK : ∀ b, S P w0 n ops l ((d, true, .slice (some ⟨b, 0, none⟩) 0 0) :: F) ((i, .own e size (.slice (some ⟨b, 0, none⟩) 0 0) 0 []) :: L) Q) : S P w0 n ops (o :: l) F L Q :=
  S_loud d hg hd hdn fun a w hF hM => by
    obtain ⟨j, hj, hjs⟩ := Option.map_eq_some_iff.1 hz
    refine ⟨_, w.alloc (.cells #[] e), _, ?_, hM.gain ((Below.refl _ _).alloc (Nat.le_refl _) _) i (v := .slice (some ⟨w.heap.size, 0, none⟩) 0 0) (xs := []) ⟨by simp, .inr ⟨w.heap.size, 0, #[], rfl, Nat.le_refl _, heap_alloc_new w _, Nat.le_refl _, Nat.zero_le _, by simp, by simp⟩⟩, hK w.heap.size⟩
    simp only [execOp, ho, Instr.buildSlice, Sem.run_bind, run_underlying ht, Result.andThen_ok, sizeOf, typeInfo, run_program, hj, Sem.run_pure]
    simp [Instr.fill, newRow]
    congr 2
    apply Array.ext'
    simp
theorem run_equalIn_sl (k : Nat) {e : TypeId} {A : Option Addr} {q c : Nat} (ht : P.underlying t = some (.slice e)) (w : World) : (Op.equalIn (k + 1) t (.slice A q c) (.slice none 0 0)).run P w = .ok A.isNone w := by
  cases A <;> simp [Op.equalIn, run_underlying ht]
/-- a slice beside nil -/
theorem b_eqln {e : TypeId} {A : Option Addr} {q c : Nat} (ht : P.underlying t = some (.slice e)) : ∀ w, (do eqGuard .eql t x y (.slice A q c) (.slice none 0 0); binOp .eql t (.slice A q c) (.slice none 0 0) : Sem Value).run P w = .ok (.bool A.isNone) w := fun w => by
  simp only [eqGuard_at_slice, binOp, Op.equal, Op.maxDepth]
  simp [run_equalIn_sl 9999 ht]
/-- a row of ours, shortened -/
theorem S_shrink (i h : Nat) {e : TypeId} {size q c : Nat} {A : Option Addr} {xs : List Value} (hL : L.get i = some (.own e size (.slice A q c) q xs)) (hle : h ≤ q) (hK : S P w0 n ops l F ((i, .own e size (.slice A h c) h (xs.take (h * size))) :: L) Q) : S P w0 n ops l F L Q := fun a w hF hM => by
  refine hK a w hF (hM.turn (p' := .own e size (.slice A h c) h (xs.take (h * size))) hL ⟨rfl, rfl, rfl, Nat.le_refl _, fun _ _ _ => rfl⟩ ?_ (.inl (by cases A <;> rfl)))
  have hown : w.ownsRow w0.heap.size e size (.slice A q c) q xs := hM.sat i _ hL
  have hlen : (xs.take (h * size)).length = h * size := by
    rw [List.length_take, hown.1]
    exact Nat.min_eq_left (Nat.mul_le_mul_right size hle)
  rcases hown.2 with ⟨hv, h0⟩ | ⟨gb, cap, cur, hv, hb, hgb, hnc, hcm, hcs, htk⟩
  · have hA : A = none := by injection hv
    have hc : c = 0 := by injection hv
    have hh : h = 0 := by omega
    subst hA; subst hc; subst hh
    exact ⟨hlen, .inl ⟨rfl, rfl⟩⟩
  · have hA : A = some ⟨gb, 0, none⟩ := by injection hv
    have hc : c = cap := by injection hv
    subst hA; subst hc
    exact ⟨hlen, .inr ⟨gb, c, cur, rfl, hb, hgb, by omega, hcm, hcs, by rw [← htk, List.take_take, Nat.min_eq_left (Nat.mul_le_mul_right size hle)]⟩⟩
end
end Go.Eng
