/- The end of a function with three results, of which the first is a variable's cells. No condition. -/
import Derived.Test.YtgbldojgbpgjbaaGreatDoorStrs
namespace Go.Eng
open Go.RowKit
theorem results_cell_tmp2 {fn : Func} {p u v : Tmp} {ty : TypeId} (h : fn.results = #[.cell p ty, .tmp u, .tmp v]) (tmps : Array Value) (P : Program) (w : World) :
    (results fn tmps).run P w = ((asAddr (tmps.getD p undef)).run P w).andThen fun a w₁ => ((loadVar ty a).run P w₁).andThen fun x w₂ => .ok (.tuple #[x, tmps.getD u undef, tmps.getD v undef]) w₂ := by
  simp only [results, h]
  simp [Sem.run_bind, Result.andThen]
section
variable {P : Program} {w0 : World} {n : Nat} {F : FL} {L : HL}
theorem post_cell2 {fn : Func} {R : Ending → World → Prop} (i : Nat) {p u v b : Nat} {ty tb : TypeId} {d : TypeDesc} {cs : List Value} {v' v'' : Value} (h : fn.results = #[.cell p ty, .tmp u, .tmp v]) (hp : F.get p = some (true, .pointer (some ⟨b, 0, none⟩))) (hu : F.get u = some (true, v')) (hv : F.get v = some (true, v'')) (hL : L.get i = some (.blk b (IsBox cs tb)))
    (hty : P.underlying ty = some d) (hd : isAggB d = true) (hz : (P.info? ty).map (·.size) = some cs.length) (hR : ∀ w, Mem w0 L w → R (.returned (.tuple #[.agg cs.toArray, v', v''])) w) : ∀ a w, Fr n F a → Mem w0 L w → bodyPost P fn R .ret a w := fun a w hF hM => by
  have e1 := hF.has p true _ hp
  have e2 := hF.has u true _ hu
  have e3 := hF.has v true _ hv
  simp only [cond_true] at e1 e2 e3
  obtain ⟨_, ob, h1, h2⟩ := hM.sat i _ hL
  have hl := run_loadVarA hty hd hz w (a := ⟨b, 0, none⟩) (fun j u hu' => by rw [add_zero_off, Nat.zero_add, cell_of_box h1 h2, nth_eq]; exact hu')
  refine ⟨hF.defers, .tuple #[.agg cs.toArray, v', v''], ?_, hR w hM⟩
  rw [results_cell_tmp2 h, e1, e2, e3]
  simp only [Instr.loadAt, Instr.sureAddr, Sem.run_bind, Sem.run_pure, Result.andThen_ok] at hl
  simp [asAddr, hl]
variable {v : Value}
end
end Go.Eng
