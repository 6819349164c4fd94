/- slices.SortFunc sorts shares: the premise SortsShares is paid. No condition. -/
import Derived.Test.YtofolhnecfkjkaaDoorShLe
import Derived.Test.YtofolhnecfkjkaaDoorSort
import Derived.Test.YtofolhnecfkjkaaDoorSlsf
namespace Go.Proofs.YtofolhnecfkjkaaDoor
set_option linter.unusedSimpArgs false
set_option linter.unusedVariables false
set_option maxRecDepth 20000
open Go.RowKit Go.Eng
instance : Inhabited SShare := ⟨⟨[], 0⟩⟩
def leS (x y : SShare) : Bool := !ltS y x
theorem swoS : Go.Sort.SWO (Go.Proofs.ltOf cfS) := ⟨ltS_irrefl, fun _ _ _ => ltS_trans, fun _ _ _ => ltS_ntrans⟩
theorem sortsShares : SortsShares leS := by
  intro w0 K hK A q c l w hlen hq hM
  have h := sort_own Tryd.laysSort83 (k := 2) (enc := SShare.enc) Tryd.isAgg78 Tryd.sizeOf78 (fun _ => rfl)
    (fun x v hv => by simp only [SShare.enc, List.mem_cons, List.not_mem_nil, or_false] at hv; rcases hv with rfl | rfl <;> rfl) cfS swoS 84 #[] cf84 hK 78 A q c l w hlen (by omega) (fun w' _ x y => shares2_any x y w') hM
  refine Calls.mono h ?_
  rintro e w' ⟨l', rfl, rfl, hM'⟩
  exact ⟨_, rfl, pdqL_total swoS (fun x y h1 h2 => ltS_total h1 h2) l, hM'⟩
end Go.Proofs.YtofolhnecfkjkaaDoor
