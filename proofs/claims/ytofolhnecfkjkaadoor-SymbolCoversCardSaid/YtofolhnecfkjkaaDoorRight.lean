/- What a right table keeps: rows rise, files are there. No program in sight. -/
import Derived.Test.YtofolhnecfkjkaaDoorAt
namespace Go.Proofs.YtofolhnecfkjkaaDoor
set_option linter.unusedSimpArgs false
set_option linter.unusedVariables false
set_option maxRecDepth 20000
open Go.RowKit Go.Eng

theorem rows_right {size nf : Int} : ∀ (l : List SRow) (last : Int), rowsNo size nf l last = 0 → (∀ (i : Nat) (r : SRow), l[i]? = some r → rowBad size nf r = false ∧ (r.fi = -1 ↔ r.ln = 0) ∧ last < r.pos) ∧ Rising l
  | [], last, _ => ⟨fun i r h => by simp at h, fun i j a b h => by simp at h⟩
  | r :: rest, last, h => by
    unfold rowsNo at h
    split at h
    · cases h
    rename_i h1
    split at h
    · cases h
    rename_i h2
    split at h
    · cases h
    rename_i h3
    obtain ⟨ih1, ih2⟩ := rows_right rest r.pos h
    have h2' : (r.fi = -1 ↔ r.ln = 0) := by
      by_cases ha : r.fi = -1 <;> by_cases hb : r.ln = 0 <;> simp_all
    refine ⟨fun i a ha => ?_, fun i j a b ha hb hij => ?_⟩
    · cases i with
      | zero => simp at ha; subst ha; exact ⟨by simpa using h1, h2', by omega⟩
      | succ i =>
        obtain ⟨x1, x2, x3⟩ := ih1 i a (by simpa using ha)
        exact ⟨x1, x2, by omega⟩
    · cases j with
      | zero => omega
      | succ j =>
        cases i with
        | zero => simp at ha; subst ha; exact (ih1 j b (by simpa using hb)).2.2
        | succ i => exact ih2 i j a b (by simpa using ha) (by simpa using hb) (by omega)
theorem tab_rows {t : Tab} (h : tabNo t = 0) : rowsNo t.size t.fi.q t.ro.l (-1) = 0 := by
  unfold tabNo at h
  split at h
  · cases h
  split at h
  · cases h
  obtain ⟨_, h⟩ := fst_zero h
  obtain ⟨_, h⟩ := fst_zero h
  obtain ⟨c, _⟩ := fst_zero h
  exact (le_of_ite c).2
/-- the last row that begins at x or before it -/
def atRow (x : Int) : List SRow → Option SRow → Option SRow
  | [], o => o
  | r :: rest, o => if x < r.pos then o else atRow x rest (some r)
end Go.Proofs.YtofolhnecfkjkaaDoor
