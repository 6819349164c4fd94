/- The bytes of a table, in plain lists. No program in sight. -/
import Derived.Test.YtofolhnecfkjkaaDoorNumB
import Derived.Test.YtofolhnecfkjkaaDoorAtAll
namespace Go.Proofs.YtofolhnecfkjkaaDoor
set_option linter.unusedSimpArgs false
set_option linter.unusedVariables false
set_option maxRecDepth 20000
open Go.RowKit Go.Eng

theorem dig_le {n : Nat} (h : n ≤ 4611686018427387904) : (dig128 n).length ≤ 9 := dig_len 8 n (by omega)
theorem digI_le {n : Int} (h : n ≤ 4611686018427387904) : (dig128 n.toNat).length ≤ 9 := dig_le (by omega)
def signB (d : Int) : List UInt8 := if d < 0 then dig128 (-2 * d - 1).toNat else dig128 (2 * d).toNat
theorem signB_le {d : Int} (h : -2305843009213693952 ≤ d ∧ d ≤ 2305843009213693952) : (signB d).length ≤ 9 := by
  unfold signB
  split <;> exact digI_le (by omega)
def wordB (s : List UInt8) : List UInt8 := dig128 (s.length : Int).toNat ++ s
theorem wordB_le {s : List UInt8} {k : Nat} (h : s.length ≤ k) (hk : k ≤ 1000000) : (wordB s).length ≤ k + 9 := by
  have := digI_le (n := s.length) (by omega)
  simp only [wordB, List.length_append]; omega
def filesB : List (List UInt8) → List UInt8
  | [] => []
  | s :: r => wordB s ++ filesB r
def funcB (last : Int) (f : SFunc) : List UInt8 := dig128 (f.fr - last).toNat ++ dig128 (f.to - f.fr).toNat ++ wordB f.name
def funcsB : List SFunc → Int → List UInt8
  | [], _ => []
  | f :: r, last => funcB last f ++ funcsB r f.to
def rowB (b r : SRow) : List UInt8 := dig128 (r.pos - b.pos).toNat ++ signB (r.fi - b.fi) ++ signB (r.ln - b.ln)
def rowsB : List SRow → SRow → List UInt8
  | [], _ => []
  | r :: rest, b => rowB b r ++ rowsB rest r
def callB (last : Int) (c : SCall) : List UInt8 := dig128 (c.fr - last).toNat ++ dig128 (c.to - c.fr).toNat ++ dig128 c.fi.toNat ++ dig128 c.ln.toNat ++ wordB c.name
def callsB : List SCall → Int → List UInt8
  | [], _ => []
  | c :: r, last => callB last c ++ callsB r c.fr
def rowZ : SRow := ⟨0, 0, 0⟩
def magic : List UInt8 := [73, 81, 84, 49]
def headB (t : Tab) : List UInt8 := magic ++ t.id ++ dig128 t.size.toNat ++ dig128 (t.fi.q : Int).toNat
def tabB (t : Tab) : List UInt8 := headB t ++ filesB t.fi.l ++ dig128 (t.fu.q : Int).toNat ++ funcsB t.fu.l 0 ++ dig128 (t.ro.q : Int).toNat ++ rowsB t.ro.l rowZ ++ dig128 (t.ca.q : Int).toNat ++ callsB t.ca.l 0

/-! ### What a right table bounds -/
theorem words_len {m f fi : List UInt8} (h : wordsNo m f fi = 0) : m.length ≤ 200 ∧ f.length ≤ 200 ∧ fi.length ≤ 200 := by
  unfold wordsNo at h
  split at h
  · cases h
  · rename_i hb
    simp only [Bool.or_eq_true, decide_eq_true_eq, not_or, Int.not_lt] at hb
    omega
theorem name_len {s : List UInt8} (h : nameNo s = 0) : s.length ≤ 200 := by
  unfold nameNo at h
  split at h
  · rename_i h1; exact absurd h h1
  · rename_i h1
    exact (words_len (Classical.not_not.1 h1)).2.1
theorem files_len : ∀ (l seen : List (List UInt8)), filesNo seen l = 0 → ∀ s ∈ l, s.length ≤ 200
  | [], _, _, s, hs => by cases hs
  | a :: r, seen, h, s, hs => by
    unfold filesNo at h
    split at h
    · cases h
    split at h
    · rename_i h1; exact absurd h h1
    rename_i h1
    split at h
    · cases h
    cases hs with
    | head => exact (words_len (Classical.not_not.1 h1)).2.2
    | tail _ hm => exact files_len r _ h s hm
theorem funcs_right {size : Int} : ∀ (l : List SFunc) (last : Int), funcsNo size l last = 0 → ∀ (i : Nat) (f : SFunc), l[i]? = some f → nameNo f.name = 0 ∧ spanBad size f.fr f.to = false ∧ last ≤ f.fr ∧ ∀ g, l[i + 1]? = some g → f.to ≤ g.fr
  | [], _, _, i, f, hf => by simp at hf
  | a :: r, last, h, i, f, hf => by
    unfold funcsNo at h
    split at h
    · rename_i h1; exact absurd h h1
    rename_i h1
    split at h
    · cases h
    rename_i h2
    split at h
    · cases h
    rename_i h3
    have ih := funcs_right r a.to h
    have hs : spanBad size a.fr a.to = false := by simpa using h2
    have hso := span_ok hs
    cases i with
    | zero =>
      simp at hf; subst hf
      exact ⟨Classical.not_not.1 h1, hs, by omega, fun g hg => (ih 0 g (by simpa using hg)).2.2.1⟩
    | succ i =>
      obtain ⟨x1, x2, x3, x4⟩ := ih i f (by simpa using hf)
      exact ⟨x1, x2, by omega, fun g hg => x4 g (by simpa using hg)⟩
theorem tab_parts {t : Tab} (h : tabNo t = 0) : filesNo [] t.fi.l = 0 ∧ funcsNo t.size t.fu.l 0 = 0 := by
  unfold tabNo at h
  split at h
  · cases h
  split at h
  · cases h
  obtain ⟨a, h⟩ := fst_zero h
  obtain ⟨b, h⟩ := fst_zero h
  exact ⟨(le_of_ite a).2, (le_of_ite b).2⟩
theorem calls_rise {size nf : Int} {fu : List SFunc} : ∀ (l before : List SCall) (b : SCall), callsNo size nf fu before l b = 0 → ∀ (i : Nat) (c : SCall), l[i]? = some c → b.fr ≤ c.fr ∧ ∀ g, l[i + 1]? = some g → c.fr ≤ g.fr
  | [], _, _, _, i, c, hc => by simp at hc
  | a :: r, before, b, h, i, c, hc => by
    unfold callsNo at h
    split at h
    · rename_i h1; exact absurd h h1
    split at h
    · cases h
    split at h
    · cases h
    rename_i h3
    split at h
    · rename_i h4; exact absurd h h4
    have ih := calls_rise r (before ++ [a]) a h
    have hl : b.fr ≤ a.fr := by
      simp only [callLate, Bool.or_eq_true, decide_eq_true_eq, not_or] at h3; omega
    cases i with
    | zero => simp at hc; subst hc; exact ⟨hl, fun g hg => (ih 0 g (by simpa using hg)).1⟩
    | succ i =>
      obtain ⟨x1, x2⟩ := ih i c (by simpa using hc)
      exact ⟨by omega, fun g hg => x2 g (by simpa using hg)⟩
theorem span_in {size fr to : Int} (h : spanBad size fr to = false) : 0 ≤ fr ∧ fr < to ∧ to ≤ size := by
  simp only [spanBad, outB, Bool.or_eq_false_iff, decide_eq_false_iff_not] at h; omega
theorem call_in {size nf : Int} {c : SCall} (h : callBad size nf c = false) : 0 ≤ c.fr ∧ c.fr < c.to ∧ c.to ≤ size ∧ 0 ≤ c.fi ∧ c.fi ≤ nf - 1 ∧ 1 ≤ c.ln ∧ c.ln ≤ 9999999 := by
  simp only [callBad, Bool.or_eq_false_iff] at h
  have h1 := span_in h.1.1
  have h2 := h.1.2
  have h3 := h.2
  simp only [outB, Bool.or_eq_false_iff, decide_eq_false_iff_not] at h2 h3
  omega
theorem row_in {size nf : Int} {r : SRow} (h : rowBad size nf r = false) : 0 ≤ r.pos ∧ r.pos < size ∧ -1 ≤ r.fi ∧ r.fi ≤ nf - 1 ∧ 0 ≤ r.ln ∧ r.ln ≤ 9999999 := by
  simp only [rowBad, outB, Bool.or_eq_false_iff, decide_eq_false_iff_not] at h; omega
end Go.Proofs.YtofolhnecfkjkaaDoor
