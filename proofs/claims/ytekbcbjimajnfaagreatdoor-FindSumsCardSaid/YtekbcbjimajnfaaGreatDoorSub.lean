/- A struct that lies within a box, read as a whole. No condition. -/
import Derived.Test.YtekbcbjimajnfaaGreatDoorHere
import Derived.Test.YtekbcbjimajnfaaGreatDoorMany
namespace Go.Eng
open Go.RowKit
section
variable {P : Program} {w0 w : World} {F : FL} {L : HL} {o : Oper} {g gx : Bool} {v : Value} {ty : TypeId} {x : Operand}
theorem add_at (b k j : Nat) : (⟨b, k, none⟩ : Addr).add j = ⟨b, k + j, none⟩ := by unfold Addr.add; split <;> simp_all
theorem sub_cells {b : Nat} {cs : List Value} (k n : Nat) (h : (∀ j u, cs[j]? = some u → w.cell? ((⟨b, 0, none⟩ : Addr).add j) = some u) ∧ b < w.heap.size) : ∀ j u, ((cs.drop k).take n)[j]? = some u → w.cell? ((⟨b, k, none⟩ : Addr).add j) = some u := fun j u hu => by
  have h1 : cs[k + j]? = some u := by
    rw [List.getElem?_take] at hu
    split at hu
    · rwa [List.getElem?_drop] at hu
    · cases hu
  have := h.1 (k + j) u h1
  rw [add_at, Nat.zero_add] at this
  rw [add_at]; exact this
theorem y_loadSub (i k n : Nat) {b : Nat} {cs ds : List Value} {tb : TypeId} {d : TypeDesc} (ho : o.op = .load ty x) (hx : F.ev x = some (gx, .pointer (some ⟨b, k, none⟩))) (hL : L.get i = some (.blk b (IsBox cs tb))) (hds : (cs.drop k).take n = ds)
    (hu : P.underlying ty = some d) (hd : isAggB d = true) (hz : (P.info? ty).map (·.size) = some ds.length)
    (hi : g = true → gx = true := by first | exact (fun _ => rfl) | exact (fun h => h) | exact (fun h => (Bool.and_eq_true_iff.1 h).1) | simp_all) : Y P w0 F L g o (.agg ds.toArray) :=
  Y_of fun n' a hF hg w hM => by
    subst hds
    have hc := hM.box_cells i hL
    simp only [execOp, ho, hF.eval_on hx hg hi, Sem.run_bind, run_loadVarA hu hd hz w (sub_cells k n hc)]; rfl
end
end Go.Eng
