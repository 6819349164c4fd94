/- The end of a function with three results, of which the first is a variable's cells. No condition. -/
import Derived.Test.YtekbcbjimajnfaaGreatDoorStrs
namespace Go.Eng
open Go.RowKit
section
variable {P : Program} {w0 : World} {n : Nat} {F : FL} {L : HL}
variable {v : Value}
theorem post4 {fn : Func} {R : Ending → World → Prop} {t u x y : Nat} {v' v'' z : Value} (h : fn.results = #[.tmp t, .tmp u, .tmp x, .tmp y]) (hv : F.get t = some (true, v)) (hu : F.get u = some (true, v')) (hx : F.get x = some (true, v'')) (hy : F.get y = some (true, z))
    (hR : ∀ w, Mem w0 L w → R (.returned (.tuple #[v, v', v'', z])) w) : ∀ a w, Fr n F a → Mem w0 L w → bodyPost P fn R .ret a w := fun a w hF hM =>
  ⟨hF.defers, .tuple #[v, v', v'', z], by
    have e1 := hF.has t true v hv
    have e2 := hF.has u true v' hu
    have e3 := hF.has x true v'' hx
    have e4 := hF.has y true z hy
    simp only [cond_true] at e1 e2 e3 e4
    rw [Array.getD_eq_getD_getElem?] at e1 e2 e3 e4
    simp [results, h, e1, e2, e3, e4], hR w hM⟩
end
end Go.Eng
