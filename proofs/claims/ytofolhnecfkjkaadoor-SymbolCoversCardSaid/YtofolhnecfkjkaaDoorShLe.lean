/- The order of shares is strict and total. No program in sight. -/
import Derived.Test.YtofolhnecfkjkaaDoorCmp
import Derived.Sort.Walk0
namespace Go.Proofs.YtofolhnecfkjkaaDoor
set_option linter.unusedSimpArgs false
set_option linter.unusedVariables false
set_option maxRecDepth 20000
open Go.RowKit Go.Eng
def ltS (x y : SShare) : Bool := decide (cfS x y < 0)
theorem ltS_iff (x y : SShare) : ltS x y = true ↔ y.n < x.n ∨ (x.n = y.n ∧ x.name < y.name) := by
  unfold ltS cfS cmpJ cmpB
  rw [Go.Proofs.bytesLess_eq]
  simp only [decide_eq_true_eq]
  by_cases h1 : y.n < x.n
  · rw [if_pos h1]; simp [h1]
  · rw [if_neg h1]
    by_cases h2 : x.n < y.n
    · rw [if_pos h2]; simp; omega
    · rw [if_neg h2]
      have : x.n = y.n := by omega
      by_cases h3 : x.name < y.name
      · simp [h3, this]
      · rw [if_neg h3]
        by_cases h4 : x.name = y.name
        · rw [if_pos h4]; simp [h3, this]
        · rw [if_neg h4]; simp [h3, this]
theorem bl_irrefl (a : Nm) : ¬ a < a := List.lt_irrefl a
theorem bl_trans {a b c : Nm} (h1 : a < b) (h2 : b < c) : a < c := List.lt_trans h1 h2
theorem bl_total {a b : Nm} (h1 : ¬ a < b) (h2 : ¬ b < a) : a = b := List.le_antisymm (List.not_lt.1 h2) (List.not_lt.1 h1)
theorem ltS_irrefl (x : SShare) : ltS x x = false := by
  rw [← Bool.not_eq_true, ltS_iff]
  rintro (h | h)
  · omega
  · exact bl_irrefl _ h.2
theorem ltS_trans {x y z : SShare} (h1 : ltS x y = true) (h2 : ltS y z = true) : ltS x z = true := by
  rw [ltS_iff] at *
  rcases h1 with h1 | h1 <;> rcases h2 with h2 | h2
  · left; omega
  · left; omega
  · left; omega
  · exact .inr ⟨by omega, bl_trans h1.2 h2.2⟩
theorem ltS_total {x y : SShare} (h1 : ltS x y = false) (h2 : ltS y x = false) : x = y := by
  rw [← Bool.not_eq_true, ltS_iff] at h1 h2
  have e : x.n = y.n := by omega
  have e2 : x.name = y.name := bl_total (fun h => h1 (.inr ⟨e, h⟩)) (fun h => h2 (.inr ⟨e.symm, h⟩))
  cases x; cases y; simp_all
theorem ltS_ntrans {x y z : SShare} (h1 : ltS x y = false) (h2 : ltS y z = false) : ltS x z = false := by
  cases h : ltS x z with
  | false => rfl
  | true =>
    cases h3 : ltS y x with
    | true => rw [ltS_trans h3 h] at h2; cases h2
    | false =>
      have := ltS_total h1 h3
      subst this
      rw [h] at h2; cases h2
end Go.Proofs.YtofolhnecfkjkaaDoor
