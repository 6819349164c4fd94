/- slices.Delete of one element of a row of ours: the later elements move down in place. A slice with three indexes. Conditions: those of each theorem. -/
import Derived.Test.YtekbcbjimajnfaaGreatDoorClr
namespace Go.Eng
set_option linter.unusedSimpArgs false
set_option linter.unusedVariables false
open Go.RowKit
section
variable {P : Program} {w0 : World} {n : Nat} {ops : Array Oper} {l : List Oper} {F : FL} {L : HL} {Q : Exit → Act → World → Prop} {o : Oper} {g : Bool} {v : Value} {x y z : Operand} {t t' : TypeId} {gx gy : Bool}
theorem y_slice3 {A : Option Addr} {q c lo hi mx : Nat} {e : TypeId} {size : Nat} {kl kh km : IntKind} {x' : Operand} (ho : o.op = .slice t x (some y) (some z) (some x')) (hx : F.ev x = some (true, .slice A q c)) (ht : P.underlying t = some (.slice e)) (hz : (P.info? e).map (·.size) = some size)
    (hl : F.ev y = some (true, .int kl (lo : Int))) (hh : F.ev z = some (true, .int kh (hi : Int))) (hm : F.ev x' = some (true, .int km (mx : Int)))
    (h1 : lo ≤ hi) (h2 : hi ≤ mx) (h3 : mx ≤ c) : Y P w0 F L g o (.slice (if mx = lo then A else A.map (·.add (lo * size))) (hi - lo) (mx - lo)) :=
  Y_of fun n a hF hg w _ => by
    cases hq : P.info? e with
    | none => simp [hq] at hz
    | some i =>
      simp only [hq, Option.map_some, Option.some.injEq] at hz
      have e1 : (hi : Int) ≤ (mx : Int) := by omega
      have e2 : (lo : Int) ≤ (hi : Int) := by omega
      have e3 : (mx : Int) ≤ (c : Int) := by omega
      have ex : a.eval x = .slice A q c := by have := hF.eval hx; simpa using this
      have ey : a.eval y = .int kl (lo : Int) := by have := hF.eval hl; simpa using this
      have ez : a.eval z = .int kh (hi : Int) := by have := hF.eval hh; simpa using this
      have em : a.eval x' = .int km (mx : Int) := by have := hF.eval hm; simpa using this
      simp [execOp, ho, ex, ey, ez, em, Instr.sliceAt, Instr.slice, Instr.sliceBounds, Instr.sliceBound, asIntOf, run_underlying ht, sizeOf, typeInfo, hq, hz, e1, e2, e3, h1, h2, h3]
/-- 's[lo:hi]' where hi may be behind the length, up to the capacity -/
theorem y_sliceC {A : Option Addr} {q c lo hi : Nat} {e : TypeId} {size : Nat} {kl kh : IntKind} (ho : o.op = .slice t x (some y) (some z) none) (hx : F.ev x = some (true, .slice A q c)) (ht : P.underlying t = some (.slice e)) (hz : (P.info? e).map (·.size) = some size)
    (hl : F.ev y = some (true, .int kl (lo : Int))) (hh : F.ev z = some (true, .int kh (hi : Int)))
    (h1 : lo ≤ hi) (h2 : hi ≤ c) : Y P w0 F L g o (.slice (if c = lo then A else A.map (·.add (lo * size))) (hi - lo) (c - lo)) :=
  Y_of fun n a hF hg w _ => by
    cases hq : P.info? e with
    | none => simp [hq] at hz
    | some i =>
      simp only [hq, Option.map_some, Option.some.injEq] at hz
      have e1 : (hi : Int) ≤ (c : Int) := by omega
      have e2 : (lo : Int) ≤ (hi : Int) := by omega
      have ex : a.eval x = .slice A q c := by have := hF.eval hx; simpa using this
      have ey : a.eval y = .int kl (lo : Int) := by have := hF.eval hl; simpa using this
      have ez : a.eval z = .int kh (hi : Int) := by have := hF.eval hh; simpa using this
      simp [execOp, ho, ex, ey, ez, Instr.sliceAt, Instr.slice, Instr.sliceBounds, Instr.sliceBound, asIntOf, run_underlying ht, sizeOf, typeInfo, hq, hz, e1, e2, h1, h2]
/-- append(s[:j], s[j+1:]...) of a row of ours: the row keeps its last element behind the result's end. -/
theorem S_delAppend (d i j : Nat) {A : Option Addr} {q c size : Nat} {e : TypeId} {info : TypeInfo} {xs : List Value} (hg : o.guard = none) (hd : o.dst = some d) (hdn : Nat.blt d n = true)
    (ho : o.op = .call { callee := .builtin .append, args := #[x, y], argTypes := #[t, t] })
    (hx : F.ev x = some (true, .slice (if c = 0 then A else A.map (·.add (0 * size))) (j - 0) (c - 0)))
    (hy : F.ev y = some (true, .slice (if c = j + 1 then A else A.map (·.add ((j + 1) * size))) (q - (j + 1)) (c - (j + 1))))
    (hL : L.get i = some (.own e size (.slice A q c) q xs)) (hj : j < q) (ht : P.underlying t = some (.slice e)) (hi : P.info? e = some info) (hsize : info.size = size) (h1 : allOne xs = true)
    (hK : S P w0 n ops l ((d, true, .slice A (q - 1) c) :: F) ((i, .own e size (.slice A q c) q (xs.take (j * size) ++ xs.drop ((j + 1) * size) ++ xs.drop ((q - 1) * size))) :: L) Q) : S P w0 n ops (o :: l) F L Q :=
  S_loud d hg hd hdn fun a w hF hM => by
    have hx' : a.eval x = .slice A j c := by
      have := hF.eval hx
      rw [slice0] at this
      simpa using this
    have hy' : a.eval y = .slice (if c = j + 1 then A else A.map (·.add ((j + 1) * size))) (q - (j + 1)) (c - (j + 1)) := by have := hF.eval hy; simpa using this
    have hown : w.ownsRow w0.heap.size e size (.slice A q c) q xs := hM.sat i _ hL
    have hlen := hown.1
    obtain ⟨_, hrd⟩ := own_reads hM hL
    obtain ⟨ad, hA0, _, hcells⟩ := hrd (by omega)
    rcases hown.2 with ⟨hvv, hn⟩ | ⟨gb, cap, cur, hvv, hb, hgb, hnc, hcm, hsz, ht'⟩
    · omega
    · have hA : A = some ⟨gb, 0, none⟩ := by injection hvv
      have hc' : c = cap := by injection hvv
      subst hA; subst hc'
      obtain rfl : (⟨gb, 0, none⟩ : Addr) = ad := by injection hA0
      rcases Nat.eq_zero_or_pos (q - (j + 1)) with h0 | h0
      · have hq : q = j + 1 := by omega
        subst hq
        have hxs : xs.take (j * size) ++ xs.drop ((j + 1) * size) ++ xs.drop ((j + 1 - 1) * size) = xs := by
          rw [List.drop_eq_nil_of_le (i := (j + 1) * size) (by omega), List.append_nil, Nat.add_sub_cancel, List.take_append_drop]
        rw [hxs, Nat.add_sub_cancel] at hK
        refine ⟨.slice (some ⟨gb, 0, none⟩) j c, w, _, ?_, hM.again hL, hK⟩
        rw [Nat.sub_self] at hy'
        simp only [execOp, ho, resolve, invoke, builtin, Sem.run_bind, Sem.run_pure, Result.andThen_ok, List.map_toArray, List.map_cons, List.map_nil, hx', hy', run_append0 ht hi (show j ≤ c by omega)]
      · have hcj : ¬ c = j + 1 := by omega
        rw [if_neg hcj] at hy'
        have hy' : a.eval y = .slice (some ⟨gb, (j + 1) * size, none⟩) (q - (j + 1)) (c - (j + 1)) := by rw [hy', Option.map_some, Addr.add_lit, Nat.zero_add]
        have hjq : (j + 1) * size + (q - (j + 1)) * size = q * size := by rw [← Nat.add_mul]; congr 1; omega
        have hj1 : j * size + (q - (j + 1)) * size = (q - 1) * size := by rw [← Nat.add_mul]; congr 1; omega
        have hq1 : (q - 1) * size + size = q * size := by rw [show q * size = (q - 1 + 1) * size by congr 1; omega, Nat.succ_mul]
        have hqc : q * size ≤ c * size := Nat.mul_le_mul_right size hnc
        have hnl : (xs.drop ((j + 1) * size)).length = (q - (j + 1)) * size := by rw [List.length_drop, hlen]; omega
        have hcl : cur.toList.length = c * size := by simpa using hsz
        have hrun := run_append_room (P := P) w t o.type e info ht hi gb j c cur hgb ⟨gb, (j + 1) * size, none⟩ (q - (j + 1)) (c - (j + 1)) (xs.drop ((j + 1) * size)) (by rw [hnl, hsize])
          (fun k u hu => by
            rw [List.getElem?_drop] at hu
            have := hcells _ u hu
            rw [Addr.add_lit, Nat.zero_add] at this
            rw [Addr.add_lit]
            exact this)
          (fun u hu => allOne_mem h1 u (List.mem_of_mem_drop hu)) (by omega) (by rw [hnl, hsize]; omega)
        rw [hsize, show j + (q - (j + 1)) = q - 1 by omega] at hrun
        refine ⟨.slice (some ⟨gb, 0, none⟩) (q - 1) c, w.setRow gb (cur.toList.take (j * size) ++ xs.drop ((j + 1) * size) ++ cur.toList.drop (j * size + (xs.drop ((j + 1) * size)).length)).toArray, _, ?_, hM.turn (p' := .own e size (.slice (some ⟨gb, 0, none⟩) q c) q (xs.take (j * size) ++ xs.drop ((j + 1) * size) ++ xs.drop ((q - 1) * size))) hL (by simpa [It.foot, Value.ownBlock] using grownBy_setRow _) ?_ (.inl rfl), hK⟩
        · simp only [execOp, ho, resolve, invoke, builtin, Sem.run_bind, Sem.run_pure, Result.andThen_ok, List.map_toArray, List.map_cons, List.map_nil, hx', hy', hrun]
        · have hjs : j * size ≤ q * size := Nat.mul_le_mul_right size (by omega)
          have et : xs.take (j * size) = cur.toList.take (j * size) := by rw [← ht', List.take_take, Nat.min_eq_left hjs]
          have ed : xs.drop ((q - 1) * size) = (cur.toList.drop ((q - 1) * size)).take size := by rw [← ht', List.drop_take]; congr 1; omega
          refine ⟨by simp only [List.length_append, List.length_take, List.length_drop, hlen]; omega, .inr ⟨gb, c, _, rfl, hb, setRow_heap w gb cur _ e (0, 0) hgb, hnc, hcm, ?_, ?_⟩⟩
          · simp only [List.size_toArray, List.length_append, List.length_take, List.length_drop, hcl, hlen]; omega
          · show ((cur.toList.take (j * size) ++ xs.drop ((j + 1) * size) ++ cur.toList.drop (j * size + (xs.drop ((j + 1) * size)).length)).take (q * size)) = _
            rw [hnl, hj1, et, ed, List.take_append, List.take_of_length_le (by simp only [List.length_append, List.length_take, List.length_drop, hcl, hlen]; omega)]
            congr 2
            simp only [List.length_append, List.length_take, List.length_drop, hcl, hlen]
            omega
end
end Go.Eng
