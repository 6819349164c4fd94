/- slices.SortFunc at elements of one cell, in the engine's words: an owned row is handed back sorted, under a compare function of which a contract with Below is known. Conditions: those of each theorem. -/
import Derived.Test.YtekbcbjimajnfaaGreatDoorSort
import Derived.Shelf.SlSortCmp.Whole1
namespace Go.Eng
open Go.RowKit Go.Shelf Go.Lib Go.Sort Go.Proofs
set_option linter.unusedSimpArgs false
set_option linter.unusedVariables false
section
variable {α : Type} [Inhabited α] {enc : α → Value}
omit [Inhabited α] in
theorem flat_one {e1 : α → List Value} (he : ∀ x, e1 x = [enc x]) (l : List α) : l.flatMap e1 = l.map enc := by
  induction l with
  | nil => rfl
  | cons a r ih => rw [List.flatMap_cons, ih, he]; rfl
theorem holds_own1 {w : World} {g : Nat} {cur : Array Value} {e : TypeId} {l : List α} (hg : w.heap[g]? = some (.cells cur e (0, 0))) (hcur : cur.toList.take l.length = l.map enc) : Holds enc w g 0 l.toArray := by
  intro j hj
  have hj' : j < l.length := by simpa using hj
  constructor
  · have h := congrArg (·[j]?) hcur
    simp only [List.getElem?_take, hj', if_true, List.getElem?_map] at h
    simp only [World.cell?, hg, Nat.zero_add]
    rw [Array.getElem?_toList] at h
    rw [getElem!_pos _ j hj]
    simpa [hj'] using h
  · simp [World.frozen?, hg]
theorem heap_sorted1 {w : World} {g m : Nat} {cur : Array Value} {e : TypeId} {d' : Array α} {os : Array Obj} (hg : w.heap[g]? = some (.cells cur e (0, 0))) (hcs : d'.size ≤ cur.size) :
    ∃ cur' : Array Value, (sortWorld enc w g 0 m d' os).heap[g]? = some (.cells cur' e (0, 0)) ∧ cur'.size = cur.size ∧ cur'.toList.take d'.size = d'.toList.map enc := by
  have hlt : g < w.heap.size := (Array.getElem?_eq_some_iff.1 hg).1
  refine ⟨putCells enc 0 d' cur, ?_, by simp [putCells], ?_⟩
  · unfold sortWorld
    rw [heap_grow_old _ _ (by show g < (Array.modify _ _ _).size; simpa [ahead] using hlt)]
    show (Array.modify w.heap g _)[g]? = _
    rw [Array.getElem?_modify, if_pos rfl, hg]
    rfl
  · apply List.ext_getElem?
    intro t
    rw [List.getElem?_take]
    by_cases h : t < d'.size
    · rw [if_pos h, Array.getElem?_toList, List.getElem?_map, Array.getElem?_toList]
      have h2 : t < cur.size := by omega
      simp only [putCells, Array.getElem?_mapIdx, Array.getElem?_eq_getElem h2, Option.map_some, Nat.zero_le, true_and, Nat.zero_add, h, if_true, Nat.sub_zero, Array.getElem?_eq_getElem h]
      rw [getElem!_pos _ t h]
    · rw [if_neg h, List.getElem?_eq_none (by simp; omega)]
theorem sorted_grown1 {w : World} {g m : Nat} {d' : Array α} {os : Array Obj} (hlt : g < w.heap.size) : w.grownBy (sortWorld enc w g 0 m d' os) (some g) := by
  refine ⟨rfl, rfl, rfl, ?_, ?_⟩
  · show w.heap.size ≤ (Array.modify w.heap g _ ++ os).size
    simp
  · intro b hb hne
    unfold sortWorld
    rw [heap_grow_old _ _ (by show b < (Array.modify _ _ _).size; simpa [ahead] using hb)]
    show (Array.modify w.heap g _)[b]? = _
    rw [Array.getElem?_modify, if_neg (fun e => hne (by rw [e]))]
end
section
variable {P : Program} {ρ : Ren} {α : Type} [Inhabited α] {enc : α → Value} {e1 : α → List Value}
end
section
variable {P : Program} {ρ : Ren} {α : Type} [Inhabited α] {enc : α → List Value} {k : Nat}
end
end Go.Eng
