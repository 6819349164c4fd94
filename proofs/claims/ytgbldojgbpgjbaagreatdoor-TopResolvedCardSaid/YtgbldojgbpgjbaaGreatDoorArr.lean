/- Local arrays whose elements have one cell: an element's address, a slice of its end, its bytes as a string. Conditions: those of each rule. -/
import Derived.Test.YtgbldojgbpgjbaaGreatDoorOpsB
namespace Go.Eng
open Go.RowKit
set_option linter.unusedSimpArgs false
set_option linter.unusedVariables false
section
variable {P : Program} {w0 : World} {F : FL} {L : HL} {o : Oper} {g gx gy : Bool} {t : TypeId} {x y : Operand} {k : IntKind} {v : Value}
theorem y_indexArr {b j N : Nat} {e : TypeId} (ho : o.op = .indexAddr t x y) (hx : F.ev x = some (gx, .pointer (some ⟨b, 0, none⟩))) (hy : F.ev y = some (gy, .int k (j : Int))) (ht : P.underlying t = some (.array N e)) (hN : 2 ≤ N) (hz : (P.info? e).map (·.size) = some 1) (hj : g = true → j < N)
    (hi : g = true → gx = true := by first | exact (fun _ => rfl) | exact (fun h => h) | exact (fun h => (Bool.and_eq_true_iff.1 h).1) | simp_all) (hi' : g = true → gy = true := by first | exact (fun _ => rfl) | exact (fun h => h) | exact (fun h => (Bool.and_eq_true_iff.1 h).1) | simp_all) : Y P w0 F L g o (.pointer (some ⟨b, j, none⟩)) :=
  Y_of fun n a hF hg w _ => by
    have h1 := hj hg
    cases hq : P.info? e with
    | none => simp [hq] at hz
    | some i =>
      simp only [hq, Option.map_some, Option.some.injEq] at hz
      have h2 : 0 ≤ (j : Int) ∧ (j : Int) < (N : Int) := ⟨by omega, by omega⟩
      have h3 : decide (N ≤ 1) = false := by simp; omega
      simp [execOp, ho, hF.eval_on hx hg hi, hF.eval_on hy hg hi', Instr.indexAt, Instr.sureAddr, asIntOf, run_underlying ht, h2, h3, sizeOf, typeInfo, hq, hz, add_zero_off]
      intro h; omega
theorem y_sliceArr {b lo N : Nat} {e : TypeId} {yl : Operand} {kl : IntKind} (ho : o.op = .slice t x (some yl) none none) (hx : F.ev x = some (true, .pointer (some ⟨b, 0, none⟩))) (ht : P.underlying t = some (.array N e)) (hz : (P.info? e).map (·.size) = some 1)
    (hl : F.ev yl = some (true, .int kl (lo : Int))) (h1 : lo < N) : Y P w0 F L g o (.slice (some ⟨b, lo, none⟩) (N - lo) (N - lo)) :=
  Y_of fun n a hF hg w _ => by
    cases hq : P.info? e with
    | none => simp [hq] at hz
    | some i =>
      simp only [hq, Option.map_some, Option.some.injEq] at hz
      have ex : a.eval x = .pointer (some ⟨b, 0, none⟩) := by have := hF.eval hx; simpa using this
      have ey : a.eval yl = .int kl (lo : Int) := by have := hF.eval hl; simpa using this
      have e1 : (lo : Int) ≤ (N : Int) := by omega
      have e2 : ¬ N = lo := by omega
      simp [execOp, ho, ex, ey, Instr.sliceAt, Instr.sureAddr, Instr.sliceBounds, Instr.sliceBound, asIntOf, run_underlying ht, sizeOf, typeInfo, hq, hz, e1, e2, add_zero_off]
      intro h; omega
theorem y_str_box (i : Nat) {src dst e tb : TypeId} {b lo q c : Nat} {cs : List Value} (l : List UInt8) (ho : o.op = .convert src dst x) (hx : F.ev x = some (gx, .slice (some ⟨b, lo, none⟩) q c)) (hL : L.get i = some (.blk b (IsBox cs tb))) (hq : q = l.length) (hc : cs.drop lo = bytesV l)
    (hs : P.underlying src = some (.slice e)) (he : P.underlying e = some (.int .u8)) (hd : P.underlying dst = some .string) (hi : g = true → gx = true := by first | exact (fun _ => rfl) | exact (fun h => h) | exact (fun h => (Bool.and_eq_true_iff.1 h).1) | simp_all) : Y P w0 F L g o (str l) :=
  Y_of fun n a hF hg w hM => by
    subst hq
    obtain ⟨hb, ob, h2, h3⟩ := hM.sat i _ hL
    have hr : (convert src dst (.slice (some ⟨b, lo, none⟩) l.length c)).run P w = .ok (str l) w := by
      refine run_convert_bytes_back w src dst e _ c l hs he hd fun j hj => ?_
      rw [add_zero_off, cell_of_box h2 h3, nth_eq]
      have h1 := congrArg (fun z => z[j]?) hc
      simp only [List.getElem?_drop] at h1
      rw [h1]
      simp [bytesV, hj]
    simp only [execOp, ho, hF.eval_on hx hg hi, Sem.run_bind, hr]; rfl
theorem spl_len {cs : List Value} {off : Nat} {vs : List Value} (h : off + vs.length ≤ cs.length) : (spl cs off vs).length = cs.length := by
  rw [spl_eq cs off vs h]; simp; omega
theorem spl_drop {cs : List Value} {off : Nat} {v : Value} (h : off + 1 ≤ cs.length) : (spl cs off [v]).drop off = v :: cs.drop (off + 1) := by
  rw [spl_eq cs off [v] (by simpa using h)]
  rw [List.append_assoc, List.drop_append_of_le_length (by simp; omega)]
  simp
end
end Go.Eng
