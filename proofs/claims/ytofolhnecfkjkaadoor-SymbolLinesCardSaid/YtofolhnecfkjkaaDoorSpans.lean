/- The spans of a line in a right table: in order, apart, each from a row of that line. No program in sight. -/
import Derived.Test.YtofolhnecfkjkaaDoorAtAll
namespace Go.Proofs.YtofolhnecfkjkaaDoor
set_option linter.unusedSimpArgs false
set_option linter.unusedVariables false
set_option maxRecDepth 20000
open Go.RowKit Go.Eng

/-- spans that are in order and apart; each begins where Q holds; the last ends at b or before it -/
structure Chain (Q : Int → Prop) (out : List SSpan) (b : Int) : Prop where
  each : ∀ (i : Nat) (s : SSpan), out[i]? = some s → s.fr < s.to ∧ Q s.fr
  next : ∀ (i : Nat) (s s' : SSpan), out[i]? = some s → out[i + 1]? = some s' → s.to < s'.fr
  last : ∀ s, out[out.length - 1]? = some s → s.to ≤ b
theorem Chain.nil {Q : Int → Prop} {b : Int} : Chain Q [] b := ⟨fun i s h => by simp at h, fun i s s' h => by simp at h, fun s h => by simp at h⟩
theorem Chain.mono {Q : Int → Prop} {out : List SSpan} {b b' : Int} (h : Chain Q out b) (hb : b ≤ b') : Chain Q out b' := ⟨h.each, h.next, fun s hs => by have := h.last s hs; omega⟩
theorem Chain.add {Q : Int → Prop} {out : List SSpan} {fr to : Int} (h : Chain Q out fr) (hQ : Q fr) (hlt : fr < to) : Chain Q (addSpan out fr to) to := by
  by_cases h0 : out = []
  · subst h0
    refine ⟨fun i s hs => ?_, fun i s s' hs hs' => ?_, fun s hs => ?_⟩
    · cases i with
      | zero => simp [addSpan] at hs; subst hs; exact ⟨hlt, hQ⟩
      | succ i => simp [addSpan] at hs
    · simp [addSpan] at hs'
    · simp [addSpan] at hs; subst hs; exact Int.le_refl _
  · have hl : 0 < out.length := List.length_pos_iff.2 h0
    obtain ⟨k, hk⟩ : ∃ k, out[out.length - 1]? = some k := ⟨out[out.length - 1], by simp [hl]⟩
    have hkb := h.last k hk
    have hke := h.each _ k hk
    by_cases hj : k.to = fr
    · rw [addSpan_join hk hj]
      refine ⟨fun i s hs => ?_, fun i s s' hs hs' => ?_, fun s hs => ?_⟩
      · rw [List.getElem?_set] at hs
        split at hs
        · split at hs
          · cases hs; exact ⟨by have := hke.1; show k.fr < to; omega, hke.2⟩
          · cases hs
        · exact h.each i s hs
      · rw [List.getElem?_set] at hs hs'
        have hi1 : ¬ out.length - 1 = i := fun e => by
          subst e
          rw [if_neg (by omega)] at hs'
          have := (List.getElem?_eq_some_iff.1 hs').1; omega
        rw [if_neg hi1] at hs
        split at hs'
        · rename_i e
          split at hs'
          · cases hs'; rw [e] at hk; exact h.next i s k hs hk
          · cases hs'
        · exact h.next i s s' hs hs'
      · rw [List.length_set, List.getElem?_set, if_pos rfl, if_pos (by omega)] at hs
        cases hs; exact Int.le_refl _
    · rw [addSpan_new (k := k) (fun _ => hk) (fun _ => hj)]
      refine ⟨fun i s hs => ?_, fun i s s' hs hs' => ?_, fun s hs => ?_⟩
      · by_cases hi : i < out.length
        · rw [List.getElem?_append_left hi] at hs; exact h.each i s hs
        · rw [List.getElem?_append_right (by omega)] at hs
          have : i - out.length = 0 := by have := (List.getElem?_eq_some_iff.1 hs).1; simp at this; omega
          rw [this] at hs; simp at hs; subst hs; exact ⟨hlt, hQ⟩
      · have hi : i < out.length := by have := (List.getElem?_eq_some_iff.1 hs').1; simp at this; omega
        rw [List.getElem?_append_left hi] at hs
        by_cases hi2 : i + 1 < out.length
        · rw [List.getElem?_append_left hi2] at hs'; exact h.next i s s' hs hs'
        · rw [List.getElem?_append_right (by omega), show i + 1 - out.length = 0 by omega] at hs'
          simp at hs'; subst hs'
          rw [show out.length - 1 = i by omega, hs] at hk
          cases hk
          show k.to < fr
          omega
      · rw [List.length_append, List.getElem?_append_right (by simp)] at hs
        simp at hs; subst hs; exact Int.le_refl _
theorem spans_right {Q : Int → Prop} {size n ln : Int} : ∀ (l : List SRow) (out : List SSpan), Rising l → (∀ (i : Nat) (r : SRow), l[i]? = some r → r.pos < size) → (∀ (i : Nat) (r : SRow), l[i]? = some r → otherB n ln r = false → Q r.pos) →
    Chain Q out (rowEnd size l) → Chain Q (spansOf size n ln l out) size
  | [], out, _, _, _, h => h
  | r :: rest, out, hr, hs, hq, h => by
    have hlt : r.pos < rowEnd size rest := by
      cases rest with
      | nil => exact hs 0 r rfl
      | cons r2 q => exact hr 0 1 r r2 rfl rfl (by omega)
    have hr' : Rising rest := fun i j a b ha hb hij => hr (i + 1) (j + 1) a b (by simpa using ha) (by simpa using hb) (by omega)
    have hs' : ∀ (i : Nat) (a : SRow), rest[i]? = some a → a.pos < size := fun i a ha => hs (i + 1) a (by simpa using ha)
    have hq' : ∀ (i : Nat) (a : SRow), rest[i]? = some a → otherB n ln a = false → Q a.pos := fun i a ha => hq (i + 1) a (by simpa using ha)
    unfold spansOf
    cases ho : otherB n ln r with
    | true => rw [if_pos rfl]; exact spans_right rest out hr' hs' hq' (h.mono (show r.pos ≤ _ by omega))
    | false => rw [if_neg (by simp)]; exact spans_right rest _ hr' hs' hq' (Chain.add h (hq 0 r rfl ho) hlt)
theorem goPlaces_out {x : Int} {files : List (List UInt8)} : ∀ (cs : List SCall) (file : List UInt8) (line : Int) (out : List SPlace), ∃ more, (goPlaces x files cs file line out).1 = out ++ more ∧
    (more = [] → (goPlaces x files cs file line out).2 = (file, line)) ∧ ∀ p, more[0]? = some p → p.fi = file ∧ p.ln = line
  | [], file, line, out => ⟨[], by simp [goPlaces], fun _ => rfl, fun p h => by simp at h⟩
  | c :: r, file, line, out => by
    unfold goPlaces
    split
    · obtain ⟨more, h1, h2, h3⟩ := goPlaces_out (x := x) (files := files) r (files.getD c.fi.toNat []) c.ln (out ++ [⟨c.name, file, line⟩])
      refine ⟨⟨c.name, file, line⟩ :: more, by rw [h1]; simp, fun h => by simp at h, fun p hp => ?_⟩
      simp at hp; subst hp; exact ⟨rfl, rfl⟩
    · exact goPlaces_out r file line out
theorem atOut_head {t : Tab} {x : Int} (h : ¬ findI (SFunc.has x) t.fu.l 0 < 0) : ∃ p, (atOut t x)[0]? = some p ∧ p.fi = lineFile t.fi.l (atRow x t.ro.l none) ∧ p.ln = lineLine (atRow x t.ro.l none) := by
  unfold atOut
  simp only [if_neg h]
  obtain ⟨more, h1, h2, h3⟩ := goPlaces_out (x := x) (files := t.fi.l) t.ca.l.reverse (lineFile t.fi.l (atRow x t.ro.l none)) (lineLine (atRow x t.ro.l none)) []
  rw [h1]
  cases more with
  | nil => rw [h2 rfl]; exact ⟨_, rfl, rfl, rfl⟩
  | cons p q => exact ⟨p, rfl, h3 p rfl⟩
theorem atRow_self {l : List SRow} {i : Nat} {r : SRow} (hr : Rising l) (h : l[i]? = some r) : atRow r.pos l none = some r := by
  have hn := (List.getElem?_eq_some_iff.1 h).1
  rw [atRow_of l none (i + 1) (by omega) (fun j a hj ha => ?_) (fun a ha => hr i (i + 1) r a h ha (by omega)), if_neg (by omega)]
  · exact h
  · by_cases e : j = i
    · subst e; rw [h] at ha; cases ha; exact Int.le_refl _
    · have := hr j i a r ha h (by omega); omega
/-- what holds where a span begins -/
def Begins (t : Tab) (file : List UInt8) (ln : Int) (x : Int) : Prop :=
  0 ≤ x ∧ (¬ findI (SFunc.has x) t.fu.l 0 < 0 → ∃ p, (atOut t x)[0]? = some p ∧ p.fi = file ∧ p.ln = ln)
theorem lines_chain {t : Tab} {file : List UInt8} {ln : Int} (h : linesNo t file ln = 0) : Chain (Begins t file ln) (linesOut t file ln) t.size := by
  have h0 := (fst_zero h).1
  have h7 := (fst_zero h).2
  rw [linesOut, if_pos h]
  obtain ⟨hall, hrise⟩ := rows_right _ _ (tab_rows h0)
  by_cases hn : findI (eqS file) t.fi.l 0 < 0
  · rw [if_pos hn] at h7; cases h7
  · obtain ⟨n, f, hf0, hf, he⟩ := findI_at t.fi.l 0 (by omega) (Int.not_lt.1 hn)
    have he' : file = f := by simpa [eqS] using he
    refine spans_right t.ro.l [] hrise (fun i r hr => ?_) (fun i r hr ho => ?_) Chain.nil
    · have := (hall i r hr).1
      simp only [rowBad, outB, Bool.or_eq_false_iff, decide_eq_false_iff_not] at this
      omega
    · have hb := (hall i r hr).1
      have hp := pos_of_row hb
      refine ⟨hp, fun hx => ?_⟩
      obtain ⟨p, h1, h2, h3⟩ := atOut_head hx
      simp only [otherB, Bool.or_eq_false_iff, Bool.not_eq_false', decide_eq_true_eq] at ho
      have hfi : r.fi = (n : Int) := by rw [ho.1, hf0]; omega
      have hng : ¬ r.fi < 0 := by omega
      rw [atRow_self hrise hr] at h2 h3
      refine ⟨p, h1, ?_, ?_⟩
      · rw [h2]; simp only [lineFile, if_neg hng]
        rw [hfi, he']; simp [List.getD, hf]
      · rw [h3]; simp only [lineLine, if_neg hng]; exact ho.2
end Go.Proofs.YtofolhnecfkjkaaDoor
