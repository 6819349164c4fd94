/- Part 5, merged by a program. A table as lines, and lines as a table: plain lists. What is written of a right table is read back. No program in sight. symbol.Text and the reference's TableText make the same lines of a right table. Conditions: those of each theorem. The reference's taker. Conditions: those of each theorem. The reference's TableRead. Conditions: those of each theorem. The reference's TableBytes of a right table. Conditions: those of each theorem. slices.Equal of several kinds, and tables that are the same. Conditions: those of each theorem. Numbers and lines that are read, and what takeLine makes of a line. Conditions: those of each theorem. -/
import Derived.Test.YtkkngcdikbhkjaaGreatDoorTail
import Derived.Test.YtkkngcdikbhkjaaGreatDoorSjn
import Derived.Test.YtkkngcdikbhkjaaGreatDoorGrd
import Derived.Shelf.Strings.OnBuilder
import Derived.Test.YtkkngcdikbhkjaaGreatDoorEqS
import Derived.Test.YtkkngcdikbhkjaaGreatDoorIns
import Derived.Test.YtkkngcdikbhkjaaGreatDoorIfc
import Derived.Test.YtkkngcdikbhkjaaGreatDoorPk4
section
namespace Go.Proofs.YtkkngcdikbhkjaaGreatDoor
set_option linter.unusedSimpArgs false
set_option linter.unusedVariables false
set_option maxRecDepth 20000
open Go.RowKit Go.Eng
abbrev kTab : List UInt8 := [116, 97, 98, 108, 101]
abbrev kFil : List UInt8 := [102, 105, 108, 101]
abbrev kFun : List UInt8 := [102, 117, 110, 99]
abbrev kRow : List UInt8 := [114, 111, 119]
abbrev kCal : List UInt8 := [99, 97, 108, 108]
/-- words with blanks between, and a line feed -/
def lnB (ws : List (List UInt8)) : List UInt8 := jn 32 ws ++ [10]
abbrev it (n : Int) : List UInt8 := Lib.itoa n
def fileW (s : List UInt8) : List (List UInt8) := [kFil, s]
def funcW (f : SFunc) : List (List UInt8) := [kFun, it f.fr, it f.tu, f.name]
def rowW (r : SRow) : List (List UInt8) := [kRow, it r.pos, it r.fi, it r.ln]
def callW (c : SCall) : List (List UInt8) := [kCal, it c.fr, it c.tu, it c.fi, it c.ln, c.name]
def headW (id : List UInt8) (size : Int) : List (List UInt8) := [kTab, id, it size]
def filesT (l : List (List UInt8)) : List UInt8 := l.flatMap fun s => lnB (fileW s)
def funcsT (l : List SFunc) : List UInt8 := l.flatMap fun s => lnB (funcW s)
def rowsT (l : List SRow) : List UInt8 := l.flatMap fun s => lnB (rowW s)
def callsT (l : List SCall) : List UInt8 := l.flatMap fun s => lnB (callW s)
def tabT (p : PT) : List UInt8 := lnB (headW p.id p.size) ++ filesT p.fi ++ funcsT p.fu ++ rowsT p.ro ++ callsT p.ca
/-! ### Read -/
def kindOf (w : List UInt8) : Int := if w = kTab then 0 else if w = kFil then 1 else if w = kFun then 2 else if w = kRow then 3 else if w = kCal then 4 else -1
def rfOk (s : List UInt8) : Bool := decide (s = [45, 49]) || plainOk s 10
def rfJ (s : List UInt8) : Int := if s = [45, 49] then -1 else ((plainJ s 10 : Nat) : Int)
def nJ (s : List UInt8) : Int := ((plainJ s 10 : Nat) : Int)
/-- a line of a kind taken into the table so far -/
def lineT (k : Int) (w : List (List UInt8)) (p : PT) : Option PT :=
  let x := fun i => w.getD i []
  if k = 0 then (if w.length = 3 ∧ x 1 ≠ [] ∧ plainOk (x 2) 10 = true then some { p with id := x 1, size := nJ (x 2) } else none)
  else if k = 1 then (if w.length = 2 ∧ x 1 ≠ [] then some { p with fi := p.fi ++ [x 1] } else none)
  else if k = 2 then (if w.length = 4 ∧ plainOk (x 1) 10 = true ∧ plainOk (x 2) 10 = true ∧ x 3 ≠ [] then some { p with fu := p.fu ++ [⟨x 3, nJ (x 1), nJ (x 2)⟩] } else none)
  else if k = 3 then (if w.length = 4 ∧ plainOk (x 1) 10 = true ∧ rfOk (x 2) = true ∧ plainOk (x 3) 10 = true then some { p with ro := p.ro ++ [⟨nJ (x 1), rfJ (x 2), nJ (x 3)⟩] } else none)
  else (if w.length = 6 ∧ plainOk (x 1) 10 = true ∧ plainOk (x 2) 10 = true ∧ plainOk (x 3) 10 = true ∧ plainOk (x 4) 10 = true ∧ x 5 ≠ [] then some { p with ca := p.ca ++ [⟨x 5, nJ (x 1), nJ (x 2), nJ (x 3), nJ (x 4)⟩] } else none)
def wordsT (s : List UInt8) : List (List UInt8) := splitC 32 (cutC 10 s).1
def kindT (s : List UInt8) : Int := kindOf ((wordsT s).getD 0 [])
def badT (s : List UInt8) (first : Bool) (last : Int) : Bool := !(cutC 10 s).2.2 || decide (kindT s < 0) || (decide (kindT s = 0) != first) || decide (kindT s < last)
/-- the lines one after the other: what they come to, or the number of the first bad one -/
def rdLines : Nat → List UInt8 → Nat → Int → PT → PT × Nat × Bool
  | 0, _, n, _, p => (p, n, false)
  | k + 1, s, n, last, p => if s = [] ∧ n ≠ 0 then (p, n, true) else if badT s (decide (n = 0)) last = true then (p, n + 1, false) else
    match lineT (kindT s) (wordsT s) p with
    | none => (p, n + 1, false)
    | some p' => rdLines k (cutC 10 s).2.1 (n + 1) (kindT s) p'
def rdTxt (s : List UInt8) : PT × Int × Int :=
  if (1000000 : Int) < s.length then (PT0, 0, 4) else
    let r := rdLines (s.length + 2) s 0 0 PT0
    if r.2.2 = false then (PT0, ((r.2.1 : Nat) : Int), 8) else if tabNoP r.1 ≠ 0 then (PT0, 0, tabNoP r.1) else (r.1, 0, 0)
theorem rdL_end {k n : Nat} {last : Int} {p : PT} (hn : n ≠ 0) : rdLines (k + 1) [] n last p = (p, n, true) := if_pos ⟨rfl, hn⟩
theorem rdL_bad {k n : Nat} {last : Int} {p : PT} {s : List UInt8} (h : ¬ (s = [] ∧ n ≠ 0)) (hb : badT s (decide (n = 0)) last = true) : rdLines (k + 1) s n last p = (p, n + 1, false) := by rw [rdLines, if_neg h, if_pos hb]
theorem rdL_none {k n : Nat} {last : Int} {p : PT} {s : List UInt8} (h : ¬ (s = [] ∧ n ≠ 0)) (hb : badT s (decide (n = 0)) last = false) (hl : lineT (kindT s) (wordsT s) p = none) : rdLines (k + 1) s n last p = (p, n + 1, false) := by
  rw [rdLines, if_neg h, if_neg (by simp [hb])]; simp only [hl]
theorem rdL_some {k n : Nat} {last : Int} {p p' : PT} {s : List UInt8} (h : ¬ (s = [] ∧ n ≠ 0)) (hb : badT s (decide (n = 0)) last = false) (hl : lineT (kindT s) (wordsT s) p = some p') : rdLines (k + 1) s n last p = rdLines k (cutC 10 s).2.1 (n + 1) (kindT s) p' := by
  rw [rdLines, if_neg h, if_neg (by simp [hb])]; simp only [hl]
/-! ### Numbers of a right table are read back -/
theorem it_dig {n : Int} (h0 : 0 ≤ n) (h1 : n ≤ 9999999999) : plainOk (it n) 10 = true ∧ nJ (it n) = n ∧ (∀ c ∈ it n, digB.contains c = true) ∧ it n ≠ [] := by
  rw [show it n = Lib.decDigits n.toNat from itoa_nat h0]
  obtain ⟨v1, v2, v3, v4⟩ := val_dec n.toNat
  have hl := dec_len 9 n.toNat (by omega)
  have hok : plainOk (Lib.decDigits n.toNat) 10 = true := by
    simp only [plainOk, Bool.not_eq_true', Bool.or_eq_false_iff, decide_eq_false_iff_not, Bool.not_eq_false', decide_eq_true_eq, Bool.and_eq_false_iff]
    refine ⟨⟨⟨v2, by omega⟩, ?_⟩, trimS_all v3⟩
    by_cases hu : 1 ≤ n.toNat
    · right
      have := v4 hu
      omega
    · left
      have : n.toNat = 0 := by omega
      rw [this, Lib.decDigits_one (by omega)]
      simp
  refine ⟨hok, ?_, v3, v2⟩
  unfold nJ plainJ
  rw [if_pos hok, v1]; omega
theorem dig_not {s : List UInt8} (h : ∀ c ∈ s, digB.contains c = true) : (32 : UInt8) ∉ s ∧ (10 : UInt8) ∉ s ∧ (45 : UInt8) ∉ s := by
  refine ⟨fun hh => ?_, fun hh => ?_, fun hh => ?_⟩ <;> exact absurd (h _ hh) (by decide)
theorem it_file {n : Int} (h0 : -1 ≤ n) (h1 : n ≤ 9999999999) : rfOk (it n) = true ∧ rfJ (it n) = n ∧ (32 : UInt8) ∉ it n ∧ (10 : UInt8) ∉ it n ∧ it n ≠ [] := by
  by_cases hn : n = -1
  · subst hn
    have e : it (-1) = [45, 49] := by
      show 45 :: Lib.decDigits 1 = [45, 49]
      rw [Lib.decDigits_one (by decide)]; rfl
    rw [e]
    exact ⟨rfl, rfl, by decide, by decide, by decide⟩
  · obtain ⟨a1, a2, a3, a4⟩ := it_dig (n := n) (by omega) h1
    obtain ⟨d1, d2, d3⟩ := dig_not a3
    have hne : it n ≠ [45, 49] := fun e => d3 (by rw [e]; decide)
    refine ⟨by simp [rfOk, a1], ?_, d1, d2, a4⟩
    rw [rfJ, if_neg hne]; exact a2
/-! ### A line that was written -/
def PlainW (ws : List (List UInt8)) : Prop := ∀ w ∈ ws, (32 : UInt8) ∉ w ∧ (10 : UInt8) ∉ w
theorem ln_cut {ws : List (List UInt8)} (h : PlainW ws) (X : List UInt8) : cutC 10 (lnB ws ++ X) = (jn 32 ws, X, true) := by
  have hn : (10 : UInt8) ∉ jn 32 ws := fun hh => by
    rcases mem_jn hh with e | ⟨w, hw, hx⟩
    · exact absurd e (by decide)
    · exact (h w hw).2 hx
  rw [lnB, List.append_assoc]
  exact cut_app hn
theorem ln_words {ws : List (List UInt8)} (h0 : ws ≠ []) (h : PlainW ws) (X : List UInt8) : wordsT (lnB ws ++ X) = ws := by
  rw [wordsT, ln_cut h]
  exact split_jn 32 h0 fun w hw => (h w hw).1
theorem ln_step {ws : List (List UInt8)} (h0 : ws ≠ []) (h : PlainW ws) (X : List UInt8) {k n : Nat} {last : Int} {p p' : PT} {kd : Int} (hk : kindOf (ws.getD 0 []) = kd) (hk0 : 0 ≤ kd) (hn : kd = 0 ↔ n = 0) (hl : last ≤ kd) (hp : lineT kd ws p = some p') :
    rdLines (k + 1) (lnB ws ++ X) n last p = rdLines k X (n + 1) kd p' := by
  have hc := ln_cut h X
  have hw := ln_words h0 h X
  have hkt : kindT (lnB ws ++ X) = kd := by rw [kindT, hw, hk]
  have hne : lnB ws ++ X ≠ [] := by simp [lnB]
  have hb : badT (lnB ws ++ X) (decide (n = 0)) last = false := by
    unfold badT
    rw [hc, hkt]
    have e : decide (kd = 0) = decide (n = 0) := decide_eq_decide.2 hn
    rw [e]
    simp; omega
  rw [rdL_some (fun hh => hne hh.1) hb (by rw [hkt, hw]; exact hp), hkt, hc]
/-- what the words of a right table are made of -/
def clean (s : List UInt8) : Prop := s ≠ [] ∧ (32 : UInt8) ∉ s ∧ (10 : UInt8) ∉ s
theorem files_step : ∀ (l : List (List UInt8)) (X : List UInt8) (k n : Nat) (last : Int) (p : PT), (∀ s ∈ l, clean s) → n ≠ 0 → last ≤ 1 → ∃ last', last' ≤ 1 ∧ rdLines (k + l.length) (filesT l ++ X) n last p = rdLines k X (n + l.length) last' { p with fi := p.fi ++ l }
  | [], X, k, n, last, p, _, _, hl => ⟨last, hl, by simp [filesT]⟩
  | s :: r, X, k, n, last, p, h, hn, hl => by
    obtain ⟨h1, h2, h3⟩ := h s List.mem_cons_self
    obtain ⟨last', hl', e⟩ := files_step r X k (n + 1) 1 { p with fi := p.fi ++ [s] } (fun x hx => h x (List.mem_cons_of_mem _ hx)) (by omega) (by omega)
    refine ⟨last', hl', ?_⟩
    rw [show filesT (s :: r) = lnB (fileW s) ++ filesT r from rfl, List.append_assoc, List.length_cons, ← Nat.add_assoc]
    rw [ln_step (ws := fileW s) (kd := 1) (p' := { p with fi := p.fi ++ [s] }) (by simp [fileW]) (fun w hw => by
      simp only [fileW, List.mem_cons, List.not_mem_nil, or_false] at hw
      rcases hw with rfl | rfl
      · exact ⟨by decide, by decide⟩
      · exact ⟨h2, h3⟩) _ (show kindOf kFil = 1 by decide) (by decide) (by omega) hl (by simp [lineT, fileW, h1])]
    rw [e, show n + 1 + r.length = n + (r.length + 1) by omega]
    simp
theorem funcs_step : ∀ (l : List SFunc) (X : List UInt8) (k n : Nat) (last : Int) (p : PT), (∀ f ∈ l, clean f.name ∧ (0 ≤ f.fr ∧ f.fr ≤ 9999999999) ∧ 0 ≤ f.tu ∧ f.tu ≤ 9999999999) → n ≠ 0 → last ≤ 2 → ∃ last', last' ≤ 2 ∧ rdLines (k + l.length) (funcsT l ++ X) n last p = rdLines k X (n + l.length) last' { p with fu := p.fu ++ l }
  | [], X, k, n, last, p, _, _, hl => ⟨last, hl, by simp [funcsT]⟩
  | f :: r, X, k, n, last, p, h, hn, hl => by
    obtain ⟨⟨h1, h2, h3⟩, h4, h5⟩ := h f List.mem_cons_self
    obtain ⟨a1, a2, a3, a4⟩ := it_dig h4.1 h4.2
    obtain ⟨b1, b2, b3, b4⟩ := it_dig h5.1 h5.2
    have da := dig_not a3
    have db := dig_not b3
    obtain ⟨last', hl', e⟩ := funcs_step r X k (n + 1) 2 { p with fu := p.fu ++ [f] } (fun x hx => h x (List.mem_cons_of_mem _ hx)) (by omega) (by omega)
    refine ⟨last', hl', ?_⟩
    rw [show funcsT (f :: r) = lnB (funcW f) ++ funcsT r from rfl, List.append_assoc, List.length_cons, ← Nat.add_assoc]
    rw [ln_step (ws := funcW f) (kd := 2) (p' := { p with fu := p.fu ++ [f] }) (by simp [funcW]) (fun w hw => by
      simp only [funcW, List.mem_cons, List.not_mem_nil, or_false] at hw
      rcases hw with rfl | rfl | rfl | rfl
      · exact ⟨by decide, by decide⟩
      · exact ⟨da.1, da.2.1⟩
      · exact ⟨db.1, db.2.1⟩
      · exact ⟨h2, h3⟩) _ (show kindOf kFun = 2 by decide) (by decide) (by omega) hl (by simp [lineT, funcW, h1, a1, a2, b1, b2])]
    rw [e, show n + 1 + r.length = n + (r.length + 1) by omega]
    simp
theorem rows_step : ∀ (l : List SRow) (X : List UInt8) (k n : Nat) (last : Int) (p : PT), (∀ f ∈ l, (0 ≤ f.pos ∧ f.pos ≤ 9999999999) ∧ (-1 ≤ f.fi ∧ f.fi ≤ 9999999999) ∧ 0 ≤ f.ln ∧ f.ln ≤ 9999999999) → n ≠ 0 → last ≤ 3 → ∃ last', last' ≤ 3 ∧ rdLines (k + l.length) (rowsT l ++ X) n last p = rdLines k X (n + l.length) last' { p with ro := p.ro ++ l }
  | [], X, k, n, last, p, _, _, hl => ⟨last, hl, by simp [rowsT]⟩
  | f :: r, X, k, n, last, p, h, hn, hl => by
    obtain ⟨h4, h6, h5⟩ := h f List.mem_cons_self
    obtain ⟨a1, a2, a3, a4⟩ := it_dig h4.1 h4.2
    obtain ⟨b1, b2, b3, b4⟩ := it_dig h5.1 h5.2
    obtain ⟨c1, c2, c3, c4, c5⟩ := it_file h6.1 h6.2
    have da := dig_not a3
    have db := dig_not b3
    obtain ⟨last', hl', e⟩ := rows_step r X k (n + 1) 3 { p with ro := p.ro ++ [f] } (fun x hx => h x (List.mem_cons_of_mem _ hx)) (by omega) (by omega)
    refine ⟨last', hl', ?_⟩
    rw [show rowsT (f :: r) = lnB (rowW f) ++ rowsT r from rfl, List.append_assoc, List.length_cons, ← Nat.add_assoc]
    rw [ln_step (ws := rowW f) (kd := 3) (p' := { p with ro := p.ro ++ [f] }) (by simp [rowW]) (fun w hw => by
      simp only [rowW, List.mem_cons, List.not_mem_nil, or_false] at hw
      rcases hw with rfl | rfl | rfl | rfl
      · exact ⟨by decide, by decide⟩
      · exact ⟨da.1, da.2.1⟩
      · exact ⟨c3, c4⟩
      · exact ⟨db.1, db.2.1⟩) _ (show kindOf kRow = 3 by decide) (by decide) (by omega) hl (by simp [lineT, rowW, a1, a2, b1, b2, c1, c2])]
    rw [e, show n + 1 + r.length = n + (r.length + 1) by omega]
    simp
theorem calls_step : ∀ (l : List SCall) (X : List UInt8) (k n : Nat) (last : Int) (p : PT), (∀ f ∈ l, clean f.name ∧ (0 ≤ f.fr ∧ f.fr ≤ 9999999999) ∧ (0 ≤ f.tu ∧ f.tu ≤ 9999999999) ∧ (0 ≤ f.fi ∧ f.fi ≤ 9999999999) ∧ 0 ≤ f.ln ∧ f.ln ≤ 9999999999) → n ≠ 0 → last ≤ 4 → ∃ last', last' ≤ 4 ∧ rdLines (k + l.length) (callsT l ++ X) n last p = rdLines k X (n + l.length) last' { p with ca := p.ca ++ l }
  | [], X, k, n, last, p, _, _, hl => ⟨last, hl, by simp [callsT]⟩
  | f :: r, X, k, n, last, p, h, hn, hl => by
    obtain ⟨⟨h1, h2, h3⟩, h4, h5, h6, h7⟩ := h f List.mem_cons_self
    obtain ⟨a1, a2, a3, a4⟩ := it_dig h4.1 h4.2
    obtain ⟨b1, b2, b3, b4⟩ := it_dig h5.1 h5.2
    obtain ⟨c1, c2, c3, c4⟩ := it_dig h6.1 h6.2
    obtain ⟨d1, d2, d3, d4⟩ := it_dig h7.1 h7.2
    have da := dig_not a3
    have db := dig_not b3
    have dc := dig_not c3
    have dd := dig_not d3
    obtain ⟨last', hl', e⟩ := calls_step r X k (n + 1) 4 { p with ca := p.ca ++ [f] } (fun x hx => h x (List.mem_cons_of_mem _ hx)) (by omega) (by omega)
    refine ⟨last', hl', ?_⟩
    rw [show callsT (f :: r) = lnB (callW f) ++ callsT r from rfl, List.append_assoc, List.length_cons, ← Nat.add_assoc]
    rw [ln_step (ws := callW f) (kd := 4) (p' := { p with ca := p.ca ++ [f] }) (by simp [callW]) (fun w hw => by
      simp only [callW, List.mem_cons, List.not_mem_nil, or_false] at hw
      rcases hw with rfl | rfl | rfl | rfl | rfl | rfl
      · exact ⟨by decide, by decide⟩
      · exact ⟨da.1, da.2.1⟩
      · exact ⟨db.1, db.2.1⟩
      · exact ⟨dc.1, dc.2.1⟩
      · exact ⟨dd.1, dd.2.1⟩
      · exact ⟨h2, h3⟩) _ (show kindOf kCal = 4 by decide) (by decide) (by omega) hl (by simp [lineT, callW, h1, a1, a2, b1, b2, c1, c2, d1, d2])]
    rw [e, show n + 1 + r.length = n + (r.length + 1) by omega]
    simp
theorem ok_clean {s : List UInt8} (h : wordOk marks s = true) : (32 : UInt8) ∉ s ∧ (10 : UInt8) ∉ s := by
  simp only [wordOk, Bool.not_eq_true'] at h
  rw [List.any_eq_false] at h
  exact ⟨fun hh => absurd (h _ hh) (by decide), fun hh => absurd (h _ hh) (by decide)⟩
theorem word_clean {m f fi : List UInt8} (h : wordsNo m f fi = 0) : ((32 : UInt8) ∉ f ∧ (10 : UInt8) ∉ f ∧ f ≠ []) ∧ (32 : UInt8) ∉ fi ∧ (10 : UInt8) ∉ fi := by
  unfold wordsNo at h
  split at h
  · cases h
  split at h
  · cases h
  rename_i h2
  split at h
  · cases h
  rename_i h3
  simp only [Bool.or_eq_true, Bool.not_eq_true', not_or, Bool.not_eq_false] at h2
  have h4 := ok_clean h2.1.2
  exact ⟨⟨h4.1, h4.2, h3⟩, ok_clean h2.2⟩
theorem name_clean {s : List UInt8} (h : nameNo s = 0) : clean s := by
  unfold nameNo at h
  split at h
  · rename_i h1; exact absurd h h1
  · rename_i h1
    have := (word_clean (Classical.not_not.1 h1)).1
    exact ⟨this.2.2, this.1, this.2.1⟩
theorem id_clean {s : List UInt8} (h : idOk s = true) : clean s := by
  simp only [idOk, Bool.and_eq_true, decide_eq_true_eq] at h
  have hc := trimS_nil h.2
  refine ⟨fun e => by rw [e] at h; simp at h, fun hh => absurd (hc _ hh) (by decide), fun hh => absurd (hc _ hh) (by decide)⟩
theorem files_clean : ∀ (l seen : List (List UInt8)), filesNo seen l = 0 → ∀ s ∈ l, clean s
  | [], _, _, s, hs => by cases hs
  | a :: r, seen, h, s, hs => by
    unfold filesNo at h
    split at h
    · cases h
    rename_i h0
    split at h
    · rename_i h1; exact absurd h h1
    rename_i h1
    split at h
    · cases h
    cases hs with
    | head =>
      have := (word_clean (Classical.not_not.1 h1)).2
      exact ⟨h0, this.1, this.2⟩
    | tail _ hm => exact files_clean r _ h s hm
/-- what is written of a right table is read back -/
theorem text_back {p : PT} (h0 : tabNo (tabOf p) = 0) (hl : ((tabT p).length : Int) ≤ 1000000) : rdTxt (tabT p) = (p, 0, 0) := by
  have hR := rightT h0
  have hs := hR.size
  have hid := id_clean (rows_of h0).1.1
  have hid : clean p.id := hid
  have s1 : 1 ≤ p.size ∧ p.size ≤ 4294967296 := hs
  have hfi := files_clean _ _ (tab_parts h0).1
  have hfi : ∀ s ∈ p.fi, clean s := hfi
  have hfu : ∀ f ∈ p.fu, clean f.name ∧ (0 ≤ f.fr ∧ f.fr ≤ 9999999999) ∧ 0 ≤ f.tu ∧ f.tu ≤ 9999999999 := fun f hf => by
    obtain ⟨i, hi, he⟩ := List.mem_iff_getElem.1 hf
    have hg : (tabOf p).fu.l[i]? = some f := by show p.fu[i]? = some f; rw [← he]; exact List.getElem?_eq_getElem hi
    have h1 := (funcs_right _ _ (tab_parts h0).2 i f hg).1
    have h2 := hR.funcs i f hg
    have : (tabOf p).size = p.size := rfl
    exact ⟨name_clean h1, by omega, by omega⟩
  have hro : ∀ f ∈ p.ro, (0 ≤ f.pos ∧ f.pos ≤ 9999999999) ∧ (-1 ≤ f.fi ∧ f.fi ≤ 9999999999) ∧ 0 ≤ f.ln ∧ f.ln ≤ 9999999999 := fun f hf => by
    obtain ⟨i, hi, he⟩ := List.mem_iff_getElem.1 hf
    have := hR.rows i f (by show p.ro[i]? = some f; rw [← he]; exact List.getElem?_eq_getElem hi)
    have : (tabOf p).size = p.size := rfl
    omega
  have hca : ∀ f ∈ p.ca, clean f.name ∧ (0 ≤ f.fr ∧ f.fr ≤ 9999999999) ∧ (0 ≤ f.tu ∧ f.tu ≤ 9999999999) ∧ (0 ≤ f.fi ∧ f.fi ≤ 9999999999) ∧ 0 ≤ f.ln ∧ f.ln ≤ 9999999999 := fun f hf => by
    obtain ⟨i, hi, he⟩ := List.mem_iff_getElem.1 hf
    have hg : (tabOf p).ca.l[i]? = some f := by show p.ca[i]? = some f; rw [← he]; exact List.getElem?_eq_getElem hi
    have h1 := (calls_right _ _ _ (tab_calls h0) i f hg).1
    have h2 := hR.calls i f hg
    have : (tabOf p).size = p.size := rfl
    exact ⟨name_clean h1, by omega, by omega, by omega, by omega⟩
  obtain ⟨a1, a2, a3, a4⟩ := it_dig (n := p.size) (by omega) (by omega)
  have da := dig_not a3
  have hlens : ∀ {α : Type} (f : α → List (List UInt8)) (l : List α), l.length ≤ (l.flatMap fun s => lnB (f s)).length := fun f l => by
    induction l with
    | nil => simp
    | cons a r ih =>
      have h1 : 1 ≤ (lnB (f a)).length := by simp [lnB]
      rw [List.flatMap_cons, List.length_append, List.length_cons]; omega
  have l1 := hlens fileW p.fi
  have l2 := hlens funcW p.fu
  have l3 := hlens rowW p.ro
  have l4 := hlens callW p.ca
  have hlen : (tabT p).length = (lnB (headW p.id p.size)).length + (filesT p.fi).length + (funcsT p.fu).length + (rowsT p.ro).length + (callsT p.ca).length := by
    simp only [tabT, List.length_append]
  obtain ⟨k, hk⟩ : ∃ k, (tabT p).length + 2 = ((((k + 1) + p.ca.length) + p.ro.length) + p.fu.length) + p.fi.length + 1 := by
    have q1 : p.fi.length ≤ (filesT p.fi).length := l1
    have q2 : p.fu.length ≤ (funcsT p.fu).length := l2
    have q3 : p.ro.length ≤ (rowsT p.ro).length := l3
    have q4 : p.ca.length ≤ (callsT p.ca).length := l4
    exact ⟨(tabT p).length - (p.ca.length + p.ro.length + p.fu.length + p.fi.length), by omega⟩
  obtain ⟨x1, y1, e1⟩ := files_step p.fi (funcsT p.fu ++ (rowsT p.ro ++ (callsT p.ca ++ []))) ((((k + 1) + p.ca.length) + p.ro.length) + p.fu.length) 1 0 { PT0 with id := p.id, size := p.size } hfi (by omega) (by omega)
  obtain ⟨x2, y2, e2⟩ := funcs_step p.fu (rowsT p.ro ++ (callsT p.ca ++ [])) (((k + 1) + p.ca.length) + p.ro.length) (1 + p.fi.length) x1 { PT0 with id := p.id, size := p.size, fi := [] ++ p.fi } hfu (by omega) (by omega)
  obtain ⟨x3, y3, e3⟩ := rows_step p.ro (callsT p.ca ++ []) ((k + 1) + p.ca.length) (1 + p.fi.length + p.fu.length) x2 { PT0 with id := p.id, size := p.size, fi := [] ++ p.fi, fu := [] ++ p.fu } hro (by omega) (by omega)
  obtain ⟨x4, y4, e4⟩ := calls_step p.ca [] (k + 1) (1 + p.fi.length + p.fu.length + p.ro.length) x3 { PT0 with id := p.id, size := p.size, fi := [] ++ p.fi, fu := [] ++ p.fu, ro := [] ++ p.ro } hca (by omega) (by omega)
  have hr : rdLines ((tabT p).length + 2) (tabT p) 0 0 PT0 = (p, 1 + p.fi.length + p.fu.length + p.ro.length + p.ca.length, true) := by
    rw [hk]
    have et : tabT p = lnB (headW p.id p.size) ++ (filesT p.fi ++ (funcsT p.fu ++ (rowsT p.ro ++ (callsT p.ca ++ [])))) := by simp only [tabT, List.append_assoc, List.append_nil]
    rw [et, ln_step (ws := headW p.id p.size) (kd := 0) (p' := { PT0 with id := p.id, size := p.size }) (by simp [headW]) (fun w hw => by
      simp only [headW, List.mem_cons, List.not_mem_nil, or_false] at hw
      rcases hw with rfl | rfl | rfl
      · exact ⟨by decide, by decide⟩
      · exact hid.2
      · exact ⟨da.1, da.2.1⟩) _ (show kindOf kTab = 0 by decide) (by decide) (by omega) (by omega) (by simp [lineT, headW, hid.1, a1, a2])]
    rw [Nat.zero_add]
    refine e1.trans (Eq.trans ?_ (e2.trans (Eq.trans ?_ (e3.trans (Eq.trans ?_ (e4.trans ?_))))))
    · rfl
    · rfl
    · rfl
    · rw [rdL_end (by omega)]
      show ((⟨p.id, p.size, [] ++ p.fi, [] ++ p.fu, [] ++ p.ro, [] ++ p.ca⟩ : PT), _, true) = _
      simp only [List.nil_append]
  unfold rdTxt
  rw [if_neg (by omega)]
  simp only [hr]
  rw [if_neg (by simp), if_neg]
  intro hh
  exact hh h0
end Go.Proofs.YtkkngcdikbhkjaaGreatDoor
end
section
namespace Go.Proofs.YtkkngcdikbhkjaaGreatDoor
set_option linter.unusedSimpArgs false
set_option linter.unusedVariables false
set_option maxRecDepth 20000
open Go.RowKit Go.Eng
def intE9 (n : Int) : List Value := [.int .i64 n]
theorem Join_any (A : Option Addr) (q c : Nat) (l : List (List UInt8)) (w : World) (hl : SlT strEnc 1 w A q l) (hq : 0 < q) (hcap : q ≤ c) (hlen : (Lib.join l [32]).length ≤ 140737488355328) (h47 : q ≤ 1000000) :
    Calls Tryz.prog 263 #[.slice A q c, str [32]] w fun e w' => e = .returned (str (Lib.join l [32])) ∧ Below w.heap.size w w' := by
  obtain ⟨ad, rfl, hlt, hc⟩ := hl.rd.2 hq
  obtain ⟨bk, o, sp⟩ := ad
  have hll := hl.len
  have hx : ∀ (j : Nat) (s : List UInt8), l[j]? = some s → w.cell? ((⟨bk, o, sp⟩ : Addr).add j) = some (str s) := fun j s hj => hc j (str s) (by rw [strs_flat, List.getElem?_map, hj]; rfl)
  have hsp : sp = none := by
    obtain ⟨s, hs⟩ : ∃ s, l[0]? = some s := ⟨_, List.getElem?_eq_getElem (by omega)⟩
    have h := hx 0 s hs
    cases sp with
    | none => rfl
    | some k =>
      rw [show (⟨bk, o, some k⟩ : Addr).add 0 = ⟨bk, o, some k⟩ from rfl] at h
      unfold World.cell? at h
      split at h
      · simp at h
      · cases h
  subst hsp
  have hm : (l.map fun s => (⟨s.toArray⟩ : ByteArray)).map (·.data.toList) = l := by rw [List.map_map]; exact (List.map_congr_left fun s _ => rfl).trans (List.map_id l)
  have h := Any.strings_Join Tryz.lays156 Tryz.Builder_Extra_156 bk o c (l.map fun s => ⟨s.toArray⟩) ⟨#[32]⟩ w (fun j x hj => by
      rw [List.getElem?_map] at hj
      obtain ⟨s, hs, rfl⟩ := Option.map_eq_some_iff.1 hj
      have := hx j s hs
      rwa [show (⟨bk, o, none⟩ : Addr).add j = ⟨bk, o + j, none⟩ from by unfold Addr.add; split <;> simp_all] at this) hlt (by rw [List.length_map]; omega) (by rw [List.length_map]; omega) (by rw [hm]; exact hlen)
  rw [hm, List.length_map, hll] at h
  exact h
theorem line_any (A : Option Addr) (q c : Nat) (l : List (List UInt8)) (w : World) (h : Sl.Ok strEnc 1 w ⟨A, q, c, l⟩) (hq : 0 < q) (h47 : q ≤ 1000) (hlen : (jn 32 l).length ≤ 1000000) :
    Calls Tryz.prog 125 #[.slice A q c] w fun e w' => e = .returned (str (lnB l)) ∧ Below w.heap.size w w' := by
  have hj : Lib.join l [32] = jn 32 l := jn_join 32 l
  refine enter_args (args := [.slice A q c]) (F := _) Tryz.func125 rfl Tryz.ntmps125 rfl rfl ?_
  intro Rb hRb hRn
  refine T_seq ?_
  refine T_region ?_
  refine S_ 2 rfl rfl rfl _ (y_assign rfl rfl) ?_
  refine S_go (fun _ _ h => h) ?_
  refine T_seq ?_
  refine T_region ?_
  refine S_ 3 rfl rfl rfl _ (y_move rfl rfl) ?_
  refine S_ 4 rfl rfl rfl _ (y_as (v' := str (jn 32 l)) (by rw [hj]) (y_call rfl rfl rfl cf263 (fun _ w1 hM => Join_any A q c l w1 (h.t.below hM.below) hq h.cap (by rw [hj]; omega) (by omega)))) ?_
  refine S_ 5 rfl rfl rfl _ (y_bin rfl rfl rfl (fun hg => b_adds (by first | omega | (simp only [List.length_append, List.length_cons, List.length_nil]; omega)))) ?_
  refine S_ 2 rfl rfl rfl _ (y_assign rfl rfl) ?_
  refine S_go (fun _ _ h => h) ?_
  refine T_ret (fun a w hF hM => hRb a w (post1 rfl rfl (fun w hM => ?_) a w hF hM))
  exact ⟨rfl, hM.below⟩
/-! ### Lengths -/
theorem it_len {n : Int} (h : -1 ≤ n ∧ n ≤ 4611686018427387904) : (it n).length ≤ 21 := Lib.itoa_length_le n (by omega) (by omega)
theorem headT_le {id : List UInt8} {size : Int} (h : id.length ≤ 38) (hs : -1 ≤ size ∧ size ≤ 4611686018427387904) : (jn 32 (headW id size)).length ≤ 399 ∧ (lnB (headW id size)).length ≤ 400 := by
  have := it_len hs
  simp only [lnB, headW, jn, kTab, List.length_append, List.length_cons, List.length_nil]; omega
theorem fileT_le {s : List UInt8} (h : s.length ≤ 200) : (jn 32 (fileW s)).length ≤ 399 ∧ (lnB (fileW s)).length ≤ 400 := by
  simp only [lnB, fileW, jn, kFil, List.length_append, List.length_cons, List.length_nil]; omega
theorem funcT_le {f : SFunc} (h : f.name.length ≤ 200) (h1 : -1 ≤ f.fr ∧ f.fr ≤ 4611686018427387904) (h2 : -1 ≤ f.tu ∧ f.tu ≤ 4611686018427387904) : (jn 32 (funcW f)).length ≤ 399 ∧ (lnB (funcW f)).length ≤ 400 := by
  have := it_len h1
  have := it_len h2
  simp only [lnB, funcW, jn, kFun, List.length_append, List.length_cons, List.length_nil]; omega
theorem rowT_le {r : SRow} (h1 : -1 ≤ r.pos ∧ r.pos ≤ 4611686018427387904) (h2 : -1 ≤ r.fi ∧ r.fi ≤ 4611686018427387904) (h3 : -1 ≤ r.ln ∧ r.ln ≤ 4611686018427387904) : (jn 32 (rowW r)).length ≤ 399 ∧ (lnB (rowW r)).length ≤ 400 := by
  have := it_len h1
  have := it_len h2
  have := it_len h3
  simp only [lnB, rowW, jn, kRow, List.length_append, List.length_cons, List.length_nil]; omega
theorem callT_le {c : SCall} (h : c.name.length ≤ 200) (h1 : -1 ≤ c.fr ∧ c.fr ≤ 4611686018427387904) (h2 : -1 ≤ c.tu ∧ c.tu ≤ 4611686018427387904) (h3 : -1 ≤ c.fi ∧ c.fi ≤ 4611686018427387904) (h4 : -1 ≤ c.ln ∧ c.ln ≤ 4611686018427387904) : (jn 32 (callW c)).length ≤ 399 ∧ (lnB (callW c)).length ≤ 400 := by
  have := it_len h1
  have := it_len h2
  have := it_len h3
  have := it_len h4
  simp only [lnB, callW, jn, kCal, List.length_append, List.length_cons, List.length_nil]; omega
def qT1 (p : PT) : List UInt8 := lnB (headW p.id p.size) ++ filesT p.fi
def qT2 (p : PT) : List UInt8 := qT1 p ++ funcsT p.fu
def qT3 (p : PT) : List UInt8 := qT2 p ++ rowsT p.ro
def textNo (t : Tab) : Int := fst (tabNo t) (if (1000000 : Int) < (tabT t.pl).length then 4 else 0)
def textS (t : Tab) : List UInt8 := if textNo t = 0 then tabT t.pl else []
set_option maxHeartbeats 1600000 in
theorem Text_any (t : Tab) (w : World) (hok : t.Ok w) (hP : P10 w) :
    Calls Tryz.prog 28 #[.agg #[str t.id, .int .i64 t.size, .slice t.fi.A t.fi.q t.fi.c, .slice t.fu.A t.fu.q t.fu.c, .slice t.ro.A t.ro.q t.ro.c, .slice t.ca.A t.ca.q t.ca.c]] w fun e w' => e = .returned (.tuple #[str (textS t), .int .i64 (textNo t)]) ∧ Below w.heap.size w w' := by
  have hq := hok.small
  refine enter_args (args := [.agg #[str t.id, .int .i64 t.size, .slice t.fi.A t.fi.q t.fi.c, .slice t.fu.A t.fu.q t.fu.c, .slice t.ro.A t.ro.q t.ro.c, .slice t.ca.A t.ca.q t.ca.c]]) (F := _) Tryz.func28 rfl Tryz.ntmps28 rfl rfl ?_
  intro Rb hRb hRn
  refine T_seq ?_
  refine T_region ?_
  refine S_box 1 1 rfl rfl rfl rfl rfl ?_
  intro b1
  refine S_ 2 rfl rfl rfl _ (y_assign rfl rfl) ?_
  refine S_ 3 rfl rfl rfl _ (y_assign rfl rfl) ?_
  refine S_go (fun _ _ h => h) ?_
  refine T_seq ?_
  refine T_seq ?_
  refine T_region ?_
  refine S_ 15 rfl rfl rfl _ (y_loadA 1 rfl rfl rfl Tryz.underlying62 rfl sz62) ?_
  refine S_ 16 rfl rfl rfl _ (y_call rfl rfl rfl cf123 (fun _ w1 hM => CheckTable_any t w1 (hok.below hM.below))) ?_
  refine S_ 4 rfl rfl rfl _ (y_assign rfl rfl) ?_
  refine S_go (fun _ _ h => h) ?_
  refine T_seq ?_
  refine T_region ?_
  refine S_ 17 rfl rfl rfl _ (y_move rfl rfl) ?_
  refine S_ 18 rfl rfl rfl _ (y_bin rfl rfl rfl (fun _ => b_neq)) ?_
  refine S_go (fun _ _ h => h) ?_
  refine T_cond rfl (fun h18 => ?_) (fun h18 => ?_)
  · try simp only [decide_eq_true_eq, decide_eq_false_iff_not, Bool.or_eq_true, Bool.or_eq_false_iff, Bool.and_eq_true, Bool.and_eq_false_iff, Bool.not_eq_true', Bool.not_eq_false', Bool.not_eq_true, Bool.not_eq_false, Bool.not_true, Bool.not_false, Int.not_lt, Int.not_le, not_or, not_and, Classical.not_not] at h18
    refine T_seq ?_
    refine T_region ?_
    refine S_ 19 rfl rfl rfl _ (y_move rfl rfl) ?_
    refine S_ 2 rfl rfl rfl _ (y_assign rfl rfl) ?_
    refine S_ 3 rfl rfl rfl _ (y_assign rfl rfl) ?_
    refine S_go (fun _ _ h => h) ?_
    refine T_ret (fun a w hF hM => hRb a w (post2 rfl rfl rfl (fun w hM => ?_) a w hF hM))
    have e : textNo t = tabNo t := fst_a rfl h18
    have e2 : textS t = [] := if_neg (by rw [e]; exact h18)
    exact ⟨by rw [e, e2], hM.below⟩
  · try simp only [decide_eq_true_eq, decide_eq_false_iff_not, Bool.or_eq_true, Bool.or_eq_false_iff, Bool.and_eq_true, Bool.and_eq_false_iff, Bool.not_eq_true', Bool.not_eq_false', Bool.not_eq_true, Bool.not_eq_false, Bool.not_true, Bool.not_false, Int.not_lt, Int.not_le, not_or, not_and, Classical.not_not] at h18
    have hR := rightT h18
    have hs := hR.size
    have hqs := hR.qs
    have hid : t.id.length ≤ 38 := by have := hR.head.1; simp only [headB, List.length_append] at this; omega
    have hhd := headT_le (size := t.size) hid (by omega)
    have hh4 : 4 ≤ (lnB (headW t.id t.size)).length := by simp only [lnB, headW, jn, kTab, List.length_append, List.length_cons, List.length_nil]; omega
    refine T_skip_go (fun _ _ h => h) ?_
    refine T_seq ?_
    refine T_region ?_
    refine S_alloc 5 5 rfl rfl rfl rfl z189 ?_
    intro b5
    refine S_nilSlice 900 (e := 5) (size := 1) ?_
    refine S_go (fun _ _ h => h) ?_
    refine T_seq ?_
    refine T_region ?_
    refine S_ 6 rfl rfl rfl _ (y_assign rfl rfl) ?_
    refine S_go (fun _ _ h => h) ?_
    refine T_seq ?_
    refine T_drawsTail 6 (by kernel_rfl) (by kernel_rfl) ?_
    refine D_ 20 rfl rfl rfl _ (y_fieldAddr rfl rfl fa62_0) ?_
    refine D_ 21 rfl rfl rfl _ (y_load 1 rfl rfl rfl rfl Tryz.underlying9 rfl) ?_
    refine D_ 22 rfl rfl rfl _ (y_move rfl rfl) ?_
    refine D_ 23 rfl rfl rfl _ (y_fieldAddr rfl rfl fa62_1) ?_
    refine D_ 24 rfl rfl rfl _ (y_load 1 rfl rfl rfl rfl Tryz.underlying3 rfl) ?_
    refine D_ 25 rfl rfl rfl _ (y_call rfl rfl rfl cf124 (fun _ w1 hM => Itoa_any _ (by omega) (by omega) w1 (hP.below hM.below))) ?_
    refine D_tail ?_
    refine S_buildSlice 26 26 rfl rfl rfl rfl rfl Tryz.underlying57 inf9 rfl (by decide) (by decide) rfl rfl (by decide) rfl ((headW t.id t.size).flatMap strEnc) ?_ ?_
    · rfl
    intro b26
    refine S_ 27 rfl rfl rfl _ (y_call rfl rfl rfl cf125 (fun hg w1 hM => line_any _ 3 _ (headW t.id t.size) w1 (owned_ok hM rfl (i := 26) rfl) (by decide) (by decide) (by have := (hhd).1; omega))) ?_
    refine S_callM 28 [(0, 5), (1, 900)] (X := Option Addr × Nat) rfl rfl rfl rfl rfl rfl rfl cf120 rfl (fun _ => .tuple #[.int .i64 (lnB (headW t.id t.size)).length, .nilIface]) (fun _ => True) (fun z0 => [(0, bB b5 (selfP b5) z0.1 z0.2 ([] ++ lnB (headW t.id t.size))), (1, bR z0.1 z0.2 ([] ++ lnB (headW t.id t.size)))]) (fun _ => rfl) (fun _ => rfl) (fun K1 hK1 w hM => (WStr_any hK1 b5 _ _ _ ([]) (lnB (headW t.id t.size)) (.inl rfl) (by simp only [List.length_nil]; omega) w hM).mono fun e w1 h => h.elim fun x h => ⟨x, h.1, trivial, h.2.2⟩) ?_
    intro x28 hx28
    refine S_go (fun _ _ h => h) ?_
    refine T_seq ?_
    refine T_seq ?_
    refine T_region ?_
    refine S_ 29 rfl rfl rfl _ (y_fieldAddr rfl rfl fa62_2) ?_
    refine S_ 30 rfl rfl rfl _ (y_load 1 rfl rfl rfl rfl Tryz.underlying57 rfl) ?_
    refine S_ 31 rfl rfl rfl _ (y_len_slice rfl rfl Tryz.underlying57) ?_
    refine S_ 32 rfl rfl rfl _ (y_move rfl rfl) ?_
    refine S_go (fun _ _ h => h) ?_
    refine T_block ?_
    refine T_loopK4 (kf := [(8, 8), (32, 40)]) (kl := [(5, 5), (8, 8), (32, 40), (900, 900)]) (fun (i : Nat) (l : List UInt8) (A : Option Addr) (c : Nat) => [(32, true, .int .i64 (i : Int))]) (fun (i : Nat) (l : List UInt8) (A : Option Addr) (c : Nat) => [(5, bB b5 (selfP b5) A c l), (900, bR A c l)]) (fun (i : Nat) (l : List UInt8) (A : Option Addr) (c : Nat) => i ≤ t.fi.q ∧ l ++ filesT (t.fi.l.drop i) = qT1 t.pl ∧ l.length ≤ 400 + i * 400 ∧ 4 ≤ l.length) (fun (i : Nat) (l : List UInt8) (A : Option Addr) (c : Nat) => t.fi.q - i) 0 (lnB (headW t.id t.size)) x28.1 x28.2 (by repeat (first | exact kf_nil | (apply kf_in; focus rfl) | (apply kf_out; focus rfl))) (by repeat (first | exact kl_nil | exact kl_rest (by assumption) rfl | (apply kl_in; focus rfl) | (apply kl_out; focus rfl))) ?_ ?_ ?_ ?_
    · exact ⟨by omega, rfl, by omega, by omega⟩
    · exact ⟨rfl, trivial⟩
    · exact ⟨rfl, rfl, trivial⟩
    rintro i l A c ⟨hp1, hp2, hp3, hp4⟩
    refine T_seq ?_
    refine T_region ?_
    refine S_ 33 rfl rfl rfl _ (y_bin rfl rfl rfl (fun _ => b_lss)) ?_
    refine S_go (fun _ _ h => h) ?_
    refine T_seq ?_
    refine T_cond rfl (fun h33 => ?_) (fun h33 => ?_)
    · try simp only [decide_eq_true_eq, decide_eq_false_iff_not, Bool.or_eq_true, Bool.or_eq_false_iff, Bool.and_eq_true, Bool.and_eq_false_iff, Bool.not_eq_true', Bool.not_eq_false', Bool.not_eq_true, Bool.not_eq_false, Bool.not_true, Bool.not_false, Int.not_lt, Int.not_le, not_or, not_and, Classical.not_not] at h33
      obtain ⟨x, hx1, hx2⟩ := hok.fi.t.at (i := i) (by omega)
      have hn1 := hR.files x (mem_at hx1)
      have hw1 := fileT_le hn1
      refine T_skip_go (fun _ _ h => h) ?_
      refine T_seq ?_
      refine T_block ?_
      refine T_seq ?_
      refine T_region ?_
      refine S_ 34 rfl rfl rfl _ (y_indexAddr rfl rfl rfl Tryz.underlying57 sz9 (fun hg => hok.fi.t.isSome (by omega)) (fun _ => by omega)) ?_
      refine S_ 35 rfl rfl rfl _ (y_loadT1 (val := (fun l : List UInt8 => str l)) rfl rfl hok.fi.t (fun _ => hx1) Tryz.underlying9 rfl) ?_
      refine S_ 8 rfl rfl rfl _ (y_assign rfl rfl) ?_
      refine S_go (fun _ _ h => h) ?_
      refine T_region ?_
      refine S_ 36 rfl rfl rfl _ (y_move rfl rfl) ?_
      refine S_buildSlice 37 37 rfl rfl rfl rfl rfl Tryz.underlying57 inf9 rfl (by decide) (by decide) rfl rfl (by decide) rfl ((fileW x).flatMap strEnc) ?_ ?_
      · rfl
      intro b37
      refine S_ 38 rfl rfl rfl _ (y_call rfl rfl rfl cf125 (fun hg w1 hM => line_any _ 2 _ (fileW x) w1 (owned_ok hM rfl (i := 37) rfl) (by decide) (by decide) (by have := (hw1).1; omega))) ?_
      refine S_callM 39 [(0, 5), (1, 900)] (X := Option Addr × Nat) rfl rfl rfl rfl rfl rfl rfl cf120 rfl (fun _ => .tuple #[.int .i64 (lnB (fileW x)).length, .nilIface]) (fun _ => True) (fun z0 => [(0, bB b5 (selfP b5) z0.1 z0.2 (l ++ lnB (fileW x))), (1, bR z0.1 z0.2 (l ++ lnB (fileW x)))]) (fun _ => rfl) (fun _ => rfl) (fun K1 hK1 w hM => (WStr_any hK1 b5 _ _ _ (l) (lnB (fileW x)) (.inr rfl) (by omega) w hM).mono fun e w1 h => h.elim fun x h => ⟨x, h.1, trivial, h.2.2⟩) ?_
      intro x39 hx39
      refine S_go (fun _ _ h => h) ?_
      refine T_region ?_
      refine S_ 40 rfl rfl rfl _ (y_bin rfl rfl rfl (fun hg => b_add (by omega))) ?_
      refine S_ 32 rfl rfl rfl _ (y_move rfl rfl) ?_
      refine S_nil (nextK4 (kf := [(8, 8), (32, 40)]) (kl := [(5, 5), (8, 8), (32, 40), (900, 900)]) (i + 1) (l ++ lnB (fileW x)) x39.1 x39.2 (by repeat (first | exact kf_nil | (apply kf_in; focus rfl) | (apply kf_out; focus rfl))) (by repeat (first | exact kl_nil | exact kl_rest (by assumption) rfl | (apply kl_in; focus rfl) | (apply kl_out; focus rfl))) ?_ ?_ ?_ ?_)
      · omega
      · exact ⟨by omega, by rw [← hp2, hx2, filesT, filesT, List.flatMap_cons, List.append_assoc], by rw [List.length_append]; omega, by rw [List.length_append]; omega⟩
      · exact ⟨rfl, trivial⟩
      · exact ⟨rfl, rfl, trivial⟩
    · try simp only [decide_eq_true_eq, decide_eq_false_iff_not, Bool.or_eq_true, Bool.or_eq_false_iff, Bool.and_eq_true, Bool.and_eq_false_iff, Bool.not_eq_true', Bool.not_eq_false', Bool.not_eq_true, Bool.not_eq_false, Bool.not_true, Bool.not_false, Int.not_lt, Int.not_le, not_or, not_and, Classical.not_not] at h33
      have e1 : l = qT1 t.pl := by rw [hok.fi.t.end (by omega)] at hp2; simpa [filesT] using hp2
      subst e1
      refine T_exit_go (fun _ _ h => h) ?_
      refine T_seq ?_
      refine T_seq ?_
      refine T_region ?_
      refine S_ 41 rfl rfl rfl _ (y_fieldAddr rfl rfl fa62_3) ?_
      refine S_ 42 rfl rfl rfl _ (y_load 1 rfl rfl rfl rfl Tryz.underlying58 rfl) ?_
      refine S_ 43 rfl rfl rfl _ (y_len_slice rfl rfl Tryz.underlying58) ?_
      refine S_ 44 rfl rfl rfl _ (y_move rfl rfl) ?_
      refine S_go (fun _ _ h => h) ?_
      refine T_block ?_
      refine T_loopK4 (kf := [(10, 10), (44, 61)]) (kl := [(5, 5), (10, 10), (44, 61), (900, 900)]) (fun (i : Nat) (l : List UInt8) (A : Option Addr) (c : Nat) => [(44, true, .int .i64 (i : Int))]) (fun (i : Nat) (l : List UInt8) (A : Option Addr) (c : Nat) => [(5, bB b5 (selfP b5) A c l), (900, bR A c l)]) (fun (i : Nat) (l : List UInt8) (A : Option Addr) (c : Nat) => i ≤ t.fu.q ∧ l ++ funcsT (t.fu.l.drop i) = qT2 t.pl ∧ l.length ≤ 100000 + i * 400 ∧ 4 ≤ l.length) (fun (i : Nat) (l : List UInt8) (A : Option Addr) (c : Nat) => t.fu.q - i) 0 (qT1 t.pl) A c (by repeat (first | exact kf_nil | (apply kf_in; focus rfl) | (apply kf_out; focus rfl))) (by repeat (first | exact kl_nil | exact kl_rest (by assumption) rfl | (apply kl_in; focus rfl) | (apply kl_out; focus rfl))) ?_ ?_ ?_ ?_
      · exact ⟨by omega, rfl, by omega, by omega⟩
      · exact ⟨rfl, trivial⟩
      · exact ⟨rfl, rfl, trivial⟩
      rintro i l A c ⟨hp1, hp2, hp3, hp4⟩
      refine T_seq ?_
      refine T_region ?_
      refine S_ 45 rfl rfl rfl _ (y_bin rfl rfl rfl (fun _ => b_lss)) ?_
      refine S_go (fun _ _ h => h) ?_
      refine T_seq ?_
      refine T_cond rfl (fun h45 => ?_) (fun h45 => ?_)
      · try simp only [decide_eq_true_eq, decide_eq_false_iff_not, Bool.or_eq_true, Bool.or_eq_false_iff, Bool.and_eq_true, Bool.and_eq_false_iff, Bool.not_eq_true', Bool.not_eq_false', Bool.not_eq_true, Bool.not_eq_false, Bool.not_true, Bool.not_false, Int.not_lt, Int.not_le, not_or, not_and, Classical.not_not] at h45
        obtain ⟨f, hx1, hx2⟩ := hok.fu.t.at (i := i) (by omega)
        obtain ⟨hf1, hf2, hf3, hf4⟩ := hR.funcs i f hx1
        have hw1 := funcT_le (f := f) hf1 (by omega) (by omega)
        have hi1 := it_len (n := f.fr) (by omega)
        have hi2 := it_len (n := f.tu) (by omega)
        refine T_skip_go (fun _ _ h => h) ?_
        refine T_seq ?_
        refine T_block ?_
        refine T_seq ?_
        refine T_region ?_
        refine S_ 46 rfl rfl rfl _ (y_indexAddr rfl rfl rfl Tryz.underlying58 sz196 (fun hg => hok.fu.t.isSome (by omega)) (fun _ => by omega)) ?_
        refine S_ 47 rfl rfl rfl _ (y_loadT rfl rfl hok.fu.t (fun _ => rfl) (fun _ => hx1) Tryz.underlying196 rfl sz196) ?_
        refine S_alloc 10 10 rfl rfl rfl rfl z196 ?_
        intro b10
        refine S_store 10 rfl rfl rfl rfl rfl rfl sz196 rfl rfl ?_
        refine S_go (fun _ _ h => h) ?_
        refine T_drawsTail 10 (by kernel_rfl) (by kernel_rfl) ?_
        refine D_ 48 rfl rfl rfl _ (y_move rfl rfl) ?_
        refine D_ 49 rfl rfl rfl _ (y_fieldAddr rfl rfl fa196_1) ?_
        refine D_ 50 rfl rfl rfl _ (y_load 10 rfl rfl rfl rfl Tryz.underlying3 rfl) ?_
        refine D_ 51 rfl rfl rfl _ (y_call rfl rfl rfl cf124 (fun _ w1 hM => Itoa_any _ (by omega) (by omega) w1 (hP.below hM.below))) ?_
        refine D_ 52 rfl rfl rfl _ (y_move rfl rfl) ?_
        refine D_ 53 rfl rfl rfl _ (y_fieldAddr rfl rfl fa196_2) ?_
        refine D_ 54 rfl rfl rfl _ (y_load 10 rfl rfl rfl rfl Tryz.underlying3 rfl) ?_
        refine D_ 55 rfl rfl rfl _ (y_call rfl rfl rfl cf124 (fun _ w1 hM => Itoa_any _ (by omega) (by omega) w1 (hP.below hM.below))) ?_
        refine D_ 56 rfl rfl rfl _ (y_fieldAddr rfl rfl fa196_0) ?_
        refine D_ 57 rfl rfl rfl _ (y_load 10 rfl rfl rfl rfl Tryz.underlying9 rfl) ?_
        refine D_tail ?_
        refine S_buildSlice 58 58 rfl rfl rfl rfl rfl Tryz.underlying57 inf9 rfl (by decide) (by decide) rfl rfl (by decide) rfl ((funcW f).flatMap strEnc) ?_ ?_
        · rfl
        intro b58
        refine S_ 59 rfl rfl rfl _ (y_call rfl rfl rfl cf125 (fun hg w1 hM => line_any _ 4 _ (funcW f) w1 (owned_ok hM rfl (i := 58) rfl) (by decide) (by decide) (by have := (hw1).1; omega))) ?_
        refine S_callM 60 [(0, 5), (1, 900)] (X := Option Addr × Nat) rfl rfl rfl rfl rfl rfl rfl cf120 rfl (fun _ => .tuple #[.int .i64 (lnB (funcW f)).length, .nilIface]) (fun _ => True) (fun z0 => [(0, bB b5 (selfP b5) z0.1 z0.2 (l ++ lnB (funcW f))), (1, bR z0.1 z0.2 (l ++ lnB (funcW f)))]) (fun _ => rfl) (fun _ => rfl) (fun K1 hK1 w hM => (WStr_any hK1 b5 _ _ _ (l) (lnB (funcW f)) (.inr rfl) (by omega) w hM).mono fun e w1 h => h.elim fun x h => ⟨x, h.1, trivial, h.2.2⟩) ?_
        intro x60 hx60
        refine S_go (fun _ _ h => h) ?_
        refine T_region ?_
        refine S_ 61 rfl rfl rfl _ (y_bin rfl rfl rfl (fun hg => b_add (by omega))) ?_
        refine S_ 44 rfl rfl rfl _ (y_move rfl rfl) ?_
        refine S_nil (nextK4 (kf := [(10, 10), (44, 61)]) (kl := [(5, 5), (10, 10), (44, 61), (900, 900)]) (i + 1) (l ++ lnB (funcW f)) x60.1 x60.2 (by repeat (first | exact kf_nil | (apply kf_in; focus rfl) | (apply kf_out; focus rfl))) (by repeat (first | exact kl_nil | exact kl_rest (by assumption) rfl | (apply kl_in; focus rfl) | (apply kl_out; focus rfl))) ?_ ?_ ?_ ?_)
        · omega
        · exact ⟨by omega, by rw [← hp2, hx2, funcsT, funcsT, List.flatMap_cons, List.append_assoc], by rw [List.length_append]; omega, by rw [List.length_append]; omega⟩
        · exact ⟨rfl, trivial⟩
        · exact ⟨rfl, rfl, trivial⟩
      · try simp only [decide_eq_true_eq, decide_eq_false_iff_not, Bool.or_eq_true, Bool.or_eq_false_iff, Bool.and_eq_true, Bool.and_eq_false_iff, Bool.not_eq_true', Bool.not_eq_false', Bool.not_eq_true, Bool.not_eq_false, Bool.not_true, Bool.not_false, Int.not_lt, Int.not_le, not_or, not_and, Classical.not_not] at h45
        have e1 : l = qT2 t.pl := by rw [hok.fu.t.end (by omega)] at hp2; simpa [funcsT] using hp2
        subst e1
        refine T_exit_go (fun _ _ h => h) ?_
        refine T_seq ?_
        refine T_seq ?_
        refine T_region ?_
        refine S_ 62 rfl rfl rfl _ (y_fieldAddr rfl rfl fa62_4) ?_
        refine S_ 63 rfl rfl rfl _ (y_load 1 rfl rfl rfl rfl Tryz.underlying59 rfl) ?_
        refine S_ 64 rfl rfl rfl _ (y_len_slice rfl rfl Tryz.underlying59) ?_
        refine S_ 65 rfl rfl rfl _ (y_move rfl rfl) ?_
        refine S_go (fun _ _ h => h) ?_
        refine T_block ?_
        refine T_loopK4 (kf := [(12, 12), (65, 84)]) (kl := [(5, 5), (12, 12), (65, 84), (900, 900)]) (fun (i : Nat) (l : List UInt8) (A : Option Addr) (c : Nat) => [(65, true, .int .i64 (i : Int))]) (fun (i : Nat) (l : List UInt8) (A : Option Addr) (c : Nat) => [(5, bB b5 (selfP b5) A c l), (900, bR A c l)]) (fun (i : Nat) (l : List UInt8) (A : Option Addr) (c : Nat) => i ≤ t.ro.q ∧ l ++ rowsT (t.ro.l.drop i) = qT3 t.pl ∧ l.length ≤ 1000000 + i * 400 ∧ 4 ≤ l.length) (fun (i : Nat) (l : List UInt8) (A : Option Addr) (c : Nat) => t.ro.q - i) 0 (qT2 t.pl) A c (by repeat (first | exact kf_nil | (apply kf_in; focus rfl) | (apply kf_out; focus rfl))) (by repeat (first | exact kl_nil | exact kl_rest (by assumption) rfl | (apply kl_in; focus rfl) | (apply kl_out; focus rfl))) ?_ ?_ ?_ ?_
        · exact ⟨by omega, rfl, by omega, by omega⟩
        · exact ⟨rfl, trivial⟩
        · exact ⟨rfl, rfl, trivial⟩
        rintro i l A c ⟨hp1, hp2, hp3, hp4⟩
        refine T_seq ?_
        refine T_region ?_
        refine S_ 66 rfl rfl rfl _ (y_bin rfl rfl rfl (fun _ => b_lss)) ?_
        refine S_go (fun _ _ h => h) ?_
        refine T_seq ?_
        refine T_cond rfl (fun h66 => ?_) (fun h66 => ?_)
        · try simp only [decide_eq_true_eq, decide_eq_false_iff_not, Bool.or_eq_true, Bool.or_eq_false_iff, Bool.and_eq_true, Bool.and_eq_false_iff, Bool.not_eq_true', Bool.not_eq_false', Bool.not_eq_true, Bool.not_eq_false, Bool.not_true, Bool.not_false, Int.not_lt, Int.not_le, not_or, not_and, Classical.not_not] at h66
          obtain ⟨r, hx1, hx2⟩ := hok.ro.t.at (i := i) (by omega)
          have hr1 := hR.rows i r hx1
          have hw1 := rowT_le (r := r) (by omega) (by omega) (by omega)
          have hi1 := it_len (n := r.pos) (by omega)
          have hi2 := it_len (n := r.fi) (by omega)
          have hi3 := it_len (n := r.ln) (by omega)
          refine T_skip_go (fun _ _ h => h) ?_
          refine T_seq ?_
          refine T_block ?_
          refine T_seq ?_
          refine T_region ?_
          refine S_ 67 rfl rfl rfl _ (y_indexAddr rfl rfl rfl Tryz.underlying59 sz198 (fun hg => hok.ro.t.isSome (by omega)) (fun _ => by omega)) ?_
          refine S_ 68 rfl rfl rfl _ (y_loadT rfl rfl hok.ro.t (fun _ => rfl) (fun _ => hx1) Tryz.underlying198 rfl sz198) ?_
          refine S_alloc 12 12 rfl rfl rfl rfl z198 ?_
          intro b12
          refine S_store 12 rfl rfl rfl rfl rfl rfl sz198 rfl rfl ?_
          refine S_go (fun _ _ h => h) ?_
          refine T_drawsTail 12 (by kernel_rfl) (by kernel_rfl) ?_
          refine D_ 69 rfl rfl rfl _ (y_move rfl rfl) ?_
          refine D_ 70 rfl rfl rfl _ (y_fieldAddr rfl rfl fa198_0) ?_
          refine D_ 71 rfl rfl rfl _ (y_load 12 rfl rfl rfl rfl Tryz.underlying3 rfl) ?_
          refine D_ 72 rfl rfl rfl _ (y_call rfl rfl rfl cf124 (fun _ w1 hM => Itoa_any _ (by omega) (by omega) w1 (hP.below hM.below))) ?_
          refine D_ 73 rfl rfl rfl _ (y_move rfl rfl) ?_
          refine D_ 74 rfl rfl rfl _ (y_fieldAddr rfl rfl fa198_1) ?_
          refine D_ 75 rfl rfl rfl _ (y_load 12 rfl rfl rfl rfl Tryz.underlying3 rfl) ?_
          refine D_ 76 rfl rfl rfl _ (y_call rfl rfl rfl cf124 (fun _ w1 hM => Itoa_any _ (by omega) (by omega) w1 (hP.below hM.below))) ?_
          refine D_ 77 rfl rfl rfl _ (y_move rfl rfl) ?_
          refine D_ 78 rfl rfl rfl _ (y_fieldAddr rfl rfl fa198_2) ?_
          refine D_ 79 rfl rfl rfl _ (y_load 12 rfl rfl rfl rfl Tryz.underlying3 rfl) ?_
          refine D_ 80 rfl rfl rfl _ (y_call rfl rfl rfl cf124 (fun _ w1 hM => Itoa_any _ (by omega) (by omega) w1 (hP.below hM.below))) ?_
          refine D_tail ?_
          refine S_buildSlice 81 81 rfl rfl rfl rfl rfl Tryz.underlying57 inf9 rfl (by decide) (by decide) rfl rfl (by decide) rfl ((rowW r).flatMap strEnc) ?_ ?_
          · rfl
          intro b81
          refine S_ 82 rfl rfl rfl _ (y_call rfl rfl rfl cf125 (fun hg w1 hM => line_any _ 4 _ (rowW r) w1 (owned_ok hM rfl (i := 81) rfl) (by decide) (by decide) (by have := (hw1).1; omega))) ?_
          refine S_callM 83 [(0, 5), (1, 900)] (X := Option Addr × Nat) rfl rfl rfl rfl rfl rfl rfl cf120 rfl (fun _ => .tuple #[.int .i64 (lnB (rowW r)).length, .nilIface]) (fun _ => True) (fun z0 => [(0, bB b5 (selfP b5) z0.1 z0.2 (l ++ lnB (rowW r))), (1, bR z0.1 z0.2 (l ++ lnB (rowW r)))]) (fun _ => rfl) (fun _ => rfl) (fun K1 hK1 w hM => (WStr_any hK1 b5 _ _ _ (l) (lnB (rowW r)) (.inr rfl) (by omega) w hM).mono fun e w1 h => h.elim fun x h => ⟨x, h.1, trivial, h.2.2⟩) ?_
          intro x83 hx83
          refine S_go (fun _ _ h => h) ?_
          refine T_region ?_
          refine S_ 84 rfl rfl rfl _ (y_bin rfl rfl rfl (fun hg => b_add (by omega))) ?_
          refine S_ 65 rfl rfl rfl _ (y_move rfl rfl) ?_
          refine S_nil (nextK4 (kf := [(12, 12), (65, 84)]) (kl := [(5, 5), (12, 12), (65, 84), (900, 900)]) (i + 1) (l ++ lnB (rowW r)) x83.1 x83.2 (by repeat (first | exact kf_nil | (apply kf_in; focus rfl) | (apply kf_out; focus rfl))) (by repeat (first | exact kl_nil | exact kl_rest (by assumption) rfl | (apply kl_in; focus rfl) | (apply kl_out; focus rfl))) ?_ ?_ ?_ ?_)
          · omega
          · exact ⟨by omega, by rw [← hp2, hx2, rowsT, rowsT, List.flatMap_cons, List.append_assoc], by rw [List.length_append]; omega, by rw [List.length_append]; omega⟩
          · exact ⟨rfl, trivial⟩
          · exact ⟨rfl, rfl, trivial⟩
        · try simp only [decide_eq_true_eq, decide_eq_false_iff_not, Bool.or_eq_true, Bool.or_eq_false_iff, Bool.and_eq_true, Bool.and_eq_false_iff, Bool.not_eq_true', Bool.not_eq_false', Bool.not_eq_true, Bool.not_eq_false, Bool.not_true, Bool.not_false, Int.not_lt, Int.not_le, not_or, not_and, Classical.not_not] at h66
          have e1 : l = qT3 t.pl := by rw [hok.ro.t.end (by omega)] at hp2; simpa [rowsT] using hp2
          subst e1
          refine T_exit_go (fun _ _ h => h) ?_
          refine T_seq ?_
          refine T_seq ?_
          refine T_region ?_
          refine S_ 85 rfl rfl rfl _ (y_fieldAddr rfl rfl fa62_5) ?_
          refine S_ 86 rfl rfl rfl _ (y_load 1 rfl rfl rfl rfl Tryz.underlying60 rfl) ?_
          refine S_ 87 rfl rfl rfl _ (y_len_slice rfl rfl Tryz.underlying60) ?_
          refine S_ 88 rfl rfl rfl _ (y_move rfl rfl) ?_
          refine S_go (fun _ _ h => h) ?_
          refine T_block ?_
          refine T_loopK4 (kf := [(14, 14), (88, 113)]) (kl := [(5, 5), (14, 14), (88, 113), (900, 900)]) (fun (i : Nat) (l : List UInt8) (A : Option Addr) (c : Nat) => [(88, true, .int .i64 (i : Int))]) (fun (i : Nat) (l : List UInt8) (A : Option Addr) (c : Nat) => [(5, bB b5 (selfP b5) A c l), (900, bR A c l)]) (fun (i : Nat) (l : List UInt8) (A : Option Addr) (c : Nat) => i ≤ t.ca.q ∧ l ++ callsT (t.ca.l.drop i) = tabT t.pl ∧ l.length ≤ 4000000 + i * 400 ∧ 4 ≤ l.length) (fun (i : Nat) (l : List UInt8) (A : Option Addr) (c : Nat) => t.ca.q - i) 0 (qT3 t.pl) A c (by repeat (first | exact kf_nil | (apply kf_in; focus rfl) | (apply kf_out; focus rfl))) (by repeat (first | exact kl_nil | exact kl_rest (by assumption) rfl | (apply kl_in; focus rfl) | (apply kl_out; focus rfl))) ?_ ?_ ?_ ?_
          · exact ⟨by omega, rfl, by omega, by omega⟩
          · exact ⟨rfl, trivial⟩
          · exact ⟨rfl, rfl, trivial⟩
          rintro i l A c ⟨hp1, hp2, hp3, hp4⟩
          refine T_seq ?_
          refine T_region ?_
          refine S_ 89 rfl rfl rfl _ (y_bin rfl rfl rfl (fun _ => b_lss)) ?_
          refine S_go (fun _ _ h => h) ?_
          refine T_seq ?_
          refine T_cond rfl (fun h89 => ?_) (fun h89 => ?_)
          · try simp only [decide_eq_true_eq, decide_eq_false_iff_not, Bool.or_eq_true, Bool.or_eq_false_iff, Bool.and_eq_true, Bool.and_eq_false_iff, Bool.not_eq_true', Bool.not_eq_false', Bool.not_eq_true, Bool.not_eq_false, Bool.not_true, Bool.not_false, Int.not_lt, Int.not_le, not_or, not_and, Classical.not_not] at h89
            obtain ⟨c0, hx1, hx2⟩ := hok.ca.t.at (i := i) (by omega)
            obtain ⟨hc1, hc2⟩ := hR.calls i c0 hx1
            have hw1 := callT_le (c := c0) hc1 (by omega) (by omega) (by omega) (by omega)
            have hi1 := it_len (n := c0.fr) (by omega)
            have hi2 := it_len (n := c0.tu) (by omega)
            have hi3 := it_len (n := c0.fi) (by omega)
            have hi4 := it_len (n := c0.ln) (by omega)
            refine T_skip_go (fun _ _ h => h) ?_
            refine T_seq ?_
            refine T_block ?_
            refine T_seq ?_
            refine T_region ?_
            refine S_ 90 rfl rfl rfl _ (y_indexAddr rfl rfl rfl Tryz.underlying60 sz200 (fun hg => hok.ca.t.isSome (by omega)) (fun _ => by omega)) ?_
            refine S_ 91 rfl rfl rfl _ (y_loadT rfl rfl hok.ca.t (fun _ => rfl) (fun _ => hx1) Tryz.underlying200 rfl sz200) ?_
            refine S_alloc 14 14 rfl rfl rfl rfl z200 ?_
            intro b14
            refine S_store 14 rfl rfl rfl rfl rfl rfl sz200 rfl rfl ?_
            refine S_go (fun _ _ h => h) ?_
            refine T_drawsTail 18 (by kernel_rfl) (by kernel_rfl) ?_
            refine D_ 92 rfl rfl rfl _ (y_move rfl rfl) ?_
            refine D_ 93 rfl rfl rfl _ (y_fieldAddr rfl rfl fa200_1) ?_
            refine D_ 94 rfl rfl rfl _ (y_load 14 rfl rfl rfl rfl Tryz.underlying3 rfl) ?_
            refine D_ 95 rfl rfl rfl _ (y_call rfl rfl rfl cf124 (fun _ w1 hM => Itoa_any _ (by omega) (by omega) w1 (hP.below hM.below))) ?_
            refine D_ 96 rfl rfl rfl _ (y_move rfl rfl) ?_
            refine D_ 97 rfl rfl rfl _ (y_fieldAddr rfl rfl fa200_2) ?_
            refine D_ 98 rfl rfl rfl _ (y_load 14 rfl rfl rfl rfl Tryz.underlying3 rfl) ?_
            refine D_ 99 rfl rfl rfl _ (y_call rfl rfl rfl cf124 (fun _ w1 hM => Itoa_any _ (by omega) (by omega) w1 (hP.below hM.below))) ?_
            refine D_ 100 rfl rfl rfl _ (y_move rfl rfl) ?_
            refine D_ 101 rfl rfl rfl _ (y_fieldAddr rfl rfl fa200_3) ?_
            refine D_ 102 rfl rfl rfl _ (y_load 14 rfl rfl rfl rfl Tryz.underlying3 rfl) ?_
            refine D_ 103 rfl rfl rfl _ (y_call rfl rfl rfl cf124 (fun _ w1 hM => Itoa_any _ (by omega) (by omega) w1 (hP.below hM.below))) ?_
            refine D_ 104 rfl rfl rfl _ (y_move rfl rfl) ?_
            refine D_ 105 rfl rfl rfl _ (y_fieldAddr rfl rfl fa200_4) ?_
            refine D_ 106 rfl rfl rfl _ (y_load 14 rfl rfl rfl rfl Tryz.underlying3 rfl) ?_
            refine D_ 107 rfl rfl rfl _ (y_call rfl rfl rfl cf124 (fun _ w1 hM => Itoa_any _ (by omega) (by omega) w1 (hP.below hM.below))) ?_
            refine D_ 108 rfl rfl rfl _ (y_fieldAddr rfl rfl fa200_0) ?_
            refine D_ 109 rfl rfl rfl _ (y_load 14 rfl rfl rfl rfl Tryz.underlying9 rfl) ?_
            refine D_tail ?_
            refine S_buildSlice 110 110 rfl rfl rfl rfl rfl Tryz.underlying57 inf9 rfl (by decide) (by decide) rfl rfl (by decide) rfl ((callW c0).flatMap strEnc) ?_ ?_
            · rfl
            intro b110
            refine S_ 111 rfl rfl rfl _ (y_call rfl rfl rfl cf125 (fun hg w1 hM => line_any _ 6 _ (callW c0) w1 (owned_ok hM rfl (i := 110) rfl) (by decide) (by decide) (by have := (hw1).1; omega))) ?_
            refine S_callM 112 [(0, 5), (1, 900)] (X := Option Addr × Nat) rfl rfl rfl rfl rfl rfl rfl cf120 rfl (fun _ => .tuple #[.int .i64 (lnB (callW c0)).length, .nilIface]) (fun _ => True) (fun z0 => [(0, bB b5 (selfP b5) z0.1 z0.2 (l ++ lnB (callW c0))), (1, bR z0.1 z0.2 (l ++ lnB (callW c0)))]) (fun _ => rfl) (fun _ => rfl) (fun K1 hK1 w hM => (WStr_any hK1 b5 _ _ _ (l) (lnB (callW c0)) (.inr rfl) (by omega) w hM).mono fun e w1 h => h.elim fun x h => ⟨x, h.1, trivial, h.2.2⟩) ?_
            intro x112 hx112
            refine S_go (fun _ _ h => h) ?_
            refine T_region ?_
            refine S_ 113 rfl rfl rfl _ (y_bin rfl rfl rfl (fun hg => b_add (by omega))) ?_
            refine S_ 88 rfl rfl rfl _ (y_move rfl rfl) ?_
            refine S_nil (nextK4 (kf := [(14, 14), (88, 113)]) (kl := [(5, 5), (14, 14), (88, 113), (900, 900)]) (i + 1) (l ++ lnB (callW c0)) x112.1 x112.2 (by repeat (first | exact kf_nil | (apply kf_in; focus rfl) | (apply kf_out; focus rfl))) (by repeat (first | exact kl_nil | exact kl_rest (by assumption) rfl | (apply kl_in; focus rfl) | (apply kl_out; focus rfl))) ?_ ?_ ?_ ?_)
            · omega
            · exact ⟨by omega, by rw [← hp2, hx2, callsT, callsT, List.flatMap_cons, List.append_assoc], by rw [List.length_append]; omega, by rw [List.length_append]; omega⟩
            · exact ⟨rfl, trivial⟩
            · exact ⟨rfl, rfl, trivial⟩
          · try simp only [decide_eq_true_eq, decide_eq_false_iff_not, Bool.or_eq_true, Bool.or_eq_false_iff, Bool.and_eq_true, Bool.and_eq_false_iff, Bool.not_eq_true', Bool.not_eq_false', Bool.not_eq_true, Bool.not_eq_false, Bool.not_true, Bool.not_false, Int.not_lt, Int.not_le, not_or, not_and, Classical.not_not] at h89
            have e1 : l = tabT t.pl := by rw [hok.ca.t.end (by omega)] at hp2; simpa [callsT] using hp2
            subst e1
            refine T_exit_go (fun _ _ h => h) ?_
            refine T_seq ?_
            refine T_seq ?_
            refine T_region ?_
            refine S_ 114 rfl rfl rfl _ (y_call rfl rfl rfl cf126 (fun _ w1 hM => BLen_any b5 A (tabT t.pl).length c w1 (hM.box_cell (i := 5) rfl rfl))) ?_
            refine S_ 115 rfl rfl rfl _ (y_bin rfl rfl rfl (fun _ => b_gtr)) ?_
            refine S_go (fun _ _ h => h) ?_
            refine T_cond rfl (fun h115 => ?_) (fun h115 => ?_)
            · try simp only [decide_eq_true_eq, decide_eq_false_iff_not, Bool.or_eq_true, Bool.or_eq_false_iff, Bool.and_eq_true, Bool.and_eq_false_iff, Bool.not_eq_true', Bool.not_eq_false', Bool.not_eq_true, Bool.not_eq_false, Bool.not_true, Bool.not_false, Int.not_lt, Int.not_le, not_or, not_and, Classical.not_not] at h115
              refine T_seq ?_
              refine T_region ?_
              refine S_ 2 rfl rfl rfl _ (y_assign rfl rfl) ?_
              refine S_ 3 rfl rfl rfl _ (y_assign rfl rfl) ?_
              refine S_go (fun _ _ h => h) ?_
              refine T_ret (fun a w hF hM => hRb a w (post2 rfl rfl rfl (fun w hM => ?_) a w hF hM))
              have e : textNo t = 4 := fst_b h18 (if_pos (by omega))
              have e2 : textS t = [] := if_neg (by rw [e]; decide)
              exact ⟨by rw [e, e2], hM.below⟩
            · try simp only [decide_eq_true_eq, decide_eq_false_iff_not, Bool.or_eq_true, Bool.or_eq_false_iff, Bool.and_eq_true, Bool.and_eq_false_iff, Bool.not_eq_true', Bool.not_eq_false', Bool.not_eq_true, Bool.not_eq_false, Bool.not_true, Bool.not_false, Int.not_lt, Int.not_le, not_or, not_and, Classical.not_not] at h115
              refine T_skip_go (fun _ _ h => h) ?_
              refine T_seq ?_
              refine T_region ?_
              refine S_callM 116 [(0, 5), (1, 900)] (X := Unit) rfl rfl rfl rfl rfl rfl rfl cf122 rfl (fun _ => str (tabT t.pl)) (fun _ => True) (fun _ => [(1, bR none 0 []), (0, bB b5 (selfP b5) A c (tabT t.pl))]) (fun _ => rfl) (fun _ => rfl) (fun K1 hK1 w hM => (BStr_any hK1 b5 _ _ _ (tabT t.pl) (by omega) (by omega) w hM).mono fun e w1 h => ⟨(), h.1, trivial, h.2⟩) ?_
              intro _ _
              refine S_ 2 rfl rfl rfl _ (y_assign rfl rfl) ?_
              refine S_ 3 rfl rfl rfl _ (y_assign rfl rfl) ?_
              refine S_go (fun _ _ h => h) ?_
              refine T_ret (fun a w hF hM => hRb a w (post2 rfl rfl rfl (fun w hM => ?_) a w hF hM))
              have e : textNo t = 0 := fst_b h18 (if_neg (by omega))
              have e2 : textS t = tabT t.pl := if_pos e
              exact ⟨by rw [e, e2], hM.below⟩
end Go.Proofs.YtkkngcdikbhkjaaGreatDoor
end
section
namespace Go.Proofs.YtkkngcdikbhkjaaGreatDoor
set_option linter.unusedSimpArgs false
set_option linter.unusedVariables false
set_option maxRecDepth 20000
open Go.RowKit Go.Eng
end Go.Proofs.YtkkngcdikbhkjaaGreatDoor
end
section
namespace Go.Proofs.YtkkngcdikbhkjaaGreatDoor
set_option linter.unusedSimpArgs false
set_option linter.unusedVariables false
set_option maxRecDepth 20000
open Go.RowKit Go.Eng
end Go.Proofs.YtkkngcdikbhkjaaGreatDoor
end
section
namespace Go.Proofs.YtkkngcdikbhkjaaGreatDoor
set_option linter.unusedSimpArgs false
set_option linter.unusedVariables false
set_option maxRecDepth 20000
open Go.RowKit Go.Eng
end Go.Proofs.YtkkngcdikbhkjaaGreatDoor
end
section
namespace Go.Proofs.YtkkngcdikbhkjaaGreatDoor
set_option linter.unusedSimpArgs false
set_option linter.unusedVariables false
set_option maxRecDepth 20000
open Go.RowKit Go.Eng
end Go.Proofs.YtkkngcdikbhkjaaGreatDoor
end
section
namespace Go.Proofs.YtkkngcdikbhkjaaGreatDoor
set_option linter.unusedSimpArgs false
set_option linter.unusedVariables false
set_option maxRecDepth 20000
open Go.RowKit Go.Eng
theorem plainNumberS_any (s : List UInt8) (hs : s.length ≤ 1000000000) (w : World) :
    Calls Tryz.prog 266 #[str s] w fun e w' => e = .returned (.tuple #[.int .i64 (nJ s), .bool (plainOk s 10)]) ∧ Below w.heap.size w w' := by
  refine enter_args (args := [str s]) (F := _) Tryz.func266 rfl Tryz.ntmps266 rfl rfl ?_
  intro Rb hRb hRn
  refine T_seq ?_
  refine T_region ?_
  refine S_ 2 rfl rfl rfl _ (y_assign rfl rfl) ?_
  refine S_ 3 rfl rfl rfl _ (y_assign rfl rfl) ?_
  refine S_go (fun _ _ h => h) ?_
  refine T_seq ?_
  refine T_seq ?_
  refine T_region ?_
  refine S_ 6 rfl rfl rfl _ (y_move rfl rfl) ?_
  refine S_ 7 rfl rfl rfl _ (y_bin rfl rfl rfl (fun _ => b_eqls)) ?_
  refine S_ 8 rfl rfl rfl _ (y_move rfl rfl) ?_
  refine Sg_ 9 rfl rfl rfl rfl rfl rfl _ (y_move rfl rfl) ?_
  refine Sg_ 10 rfl rfl rfl rfl rfl rfl _ (y_len_str rfl rfl Tryz.underlying9) ?_
  refine Sg_ 11 rfl rfl rfl rfl rfl rfl _ (y_bin rfl rfl rfl (fun _ => b_gtr)) ?_
  refine S_ 12 rfl rfl rfl _ (y_or rfl rfl rfl) ?_
  refine S_ 13 rfl rfl rfl _ (y_move rfl rfl) ?_
  refine Sg_ 14 rfl rfl rfl rfl rfl rfl _ (y_move rfl rfl) ?_
  refine Sg_ 15 rfl rfl rfl rfl rfl rfl _ (y_len_str rfl rfl Tryz.underlying9) ?_
  refine Sg_ 16 rfl rfl rfl rfl rfl rfl _ (y_bin rfl rfl rfl (fun _ => b_gtr)) ?_
  refine Sg_ 17 rfl rfl rfl rfl rfl rfl _ (y_move rfl rfl) ?_
  refine Sg_ 18 rfl rfl rfl rfl rfl rfl _ (y_move rfl rfl) ?_
  refine Sg_ 19 rfl rfl rfl rfl rfl rfl _ (y_index_str (j := 0) rfl rfl rfl Tryz.underlying9 (fun hg => by simp at hg; omega)) ?_
  refine Sg_ 20 rfl rfl rfl rfl rfl rfl _ (y_bin rfl rfl rfl (fun _ => b_eql)) ?_
  refine Sg_ 21 rfl rfl rfl rfl rfl rfl _ (y_and rfl rfl rfl) ?_
  refine S_ 22 rfl rfl rfl _ (y_or rfl rfl rfl) ?_
  refine S_ 23 rfl rfl rfl _ (y_move rfl rfl) ?_
  refine Sg_ 24 rfl rfl rfl rfl rfl rfl _ (y_move rfl rfl) ?_
  refine Sg_ 25 rfl rfl rfl rfl rfl rfl _ (y_call rfl rfl rfl cf102 (fun _ w _ => TrimDig_any s hs w)) ?_
  refine Sg_ 26 rfl rfl rfl rfl rfl rfl _ (y_bin rfl rfl rfl (fun _ => b_neqs)) ?_
  refine S_ 27 rfl rfl rfl _ (y_as (v' := .bool (!plainOk s 10)) (by rw [plainOk, Bool.not_not]; rfl) (y_or rfl rfl rfl)) ?_
  refine S_go (fun _ _ h => h) ?_
  refine T_cond rfl (fun h27 => ?_) (fun h27 => ?_)
  · skip
    have hn : plainOk s 10 = false := by simpa using h27
    refine T_seq ?_
    refine T_region ?_
    refine S_ 2 rfl rfl rfl _ (y_assign rfl rfl) ?_
    refine S_ 3 rfl rfl rfl _ (y_assign rfl rfl) ?_
    refine S_go (fun _ _ h => h) ?_
    refine T_ret (fun a w hF hM => hRb a w (post2 rfl rfl rfl (fun w hM => ?_) a w hF hM))
    exact ⟨by rw [nJ, plainJ, hn]; rfl, hM.below⟩
  · skip
    have hn : plainOk s 10 = true := by simpa using h27
    have hd := plain_parts hn
    refine T_skip_go (fun _ _ h => h) ?_
    refine T_seq ?_
    refine T_region ?_
    refine S_ 29 rfl rfl rfl _ (y_move rfl rfl) ?_
    refine S_ 30 rfl rfl rfl _ (y_call rfl rfl rfl cf335 (fun _ w _ => Atoi_any s hd.1 (by omega) hd.2.2 w)) ?_
    refine S_ 28 rfl rfl rfl _ (y_move rfl rfl) ?_
    refine S_ 31 rfl rfl rfl _ (y_extract rfl rfl rfl) ?_
    refine S_ 32 rfl rfl rfl _ (y_extract rfl rfl rfl) ?_
    refine S_ 4 rfl rfl rfl _ (y_assign rfl rfl) ?_
    refine S_ 5 rfl rfl rfl _ (y_assign rfl rfl) ?_
    refine S_go (fun _ _ h => h) ?_
    refine T_seq ?_
    refine T_draws (by kernel_rfl) (by kernel_rfl) ?_
    refine D_ 33 rfl rfl rfl _ (y_move rfl rfl) ?_
    refine D_ 34 rfl rfl rfl _ (y_move rfl rfl) ?_
    refine D_ 35 rfl rfl rfl _ (y_bin rfl rfl rfl (fun _ => b_eqlII Tryz.underlying191)) ?_
    refine D_ 2 rfl rfl rfl _ (y_assign rfl rfl) ?_
    refine D_ 3 rfl rfl rfl _ (y_assign rfl rfl) ?_
    refine D_go (fun _ _ h => h) ?_
    refine T_ret (fun a w hF hM => hRb a w (post2 rfl rfl rfl (fun w hM => ?_) a w hF hM))
    exact ⟨by rw [nJ, plainJ, hn]; rfl, hM.below⟩
theorem readFile_any (s : List UInt8) (hs : s.length ≤ 1000000000) (w : World) :
    Calls Tryz.prog 268 #[str s] w fun e w' => e = .returned (.tuple #[.int .i64 (rfJ s), .bool (rfOk s)]) ∧ Below w.heap.size w w' := by
  refine enter_args (args := [str s]) (F := _) Tryz.func268 rfl Tryz.ntmps268 rfl rfl ?_
  intro Rb hRb hRn
  refine T_seq ?_
  refine T_region ?_
  refine S_ 2 rfl rfl rfl _ (y_assign rfl rfl) ?_
  refine S_ 3 rfl rfl rfl _ (y_assign rfl rfl) ?_
  refine S_go (fun _ _ h => h) ?_
  refine T_seq ?_
  refine T_seq ?_
  refine T_region ?_
  refine S_ 4 rfl rfl rfl _ (y_move rfl rfl) ?_
  refine S_ 5 rfl rfl rfl _ (y_bin rfl rfl rfl (fun _ => b_eqls)) ?_
  refine S_go (fun _ _ h => h) ?_
  refine T_cond rfl (fun h5 => ?_) (fun h5 => ?_)
  · try simp only [decide_eq_true_eq, decide_eq_false_iff_not, Bool.or_eq_true, Bool.or_eq_false_iff, Bool.and_eq_true, Bool.and_eq_false_iff, Bool.not_eq_true', Bool.not_eq_false', Bool.not_eq_true, Bool.not_eq_false, Bool.not_true, Bool.not_false, Int.not_lt, Int.not_le, not_or, not_and, Classical.not_not] at h5
    have h5 : s = [45, 49] := h5
    refine T_seq ?_
    refine T_region ?_
    refine S_ 2 rfl rfl rfl _ (y_assign rfl rfl) ?_
    refine S_ 3 rfl rfl rfl _ (y_assign rfl rfl) ?_
    refine S_go (fun _ _ h => h) ?_
    refine T_ret (fun a w hF hM => hRb a w (post2 rfl rfl rfl (fun w hM => ?_) a w hF hM))
    exact ⟨by rw [rfJ, rfOk, if_pos h5, decide_eq_true h5]; rfl, hM.below⟩
  · try simp only [decide_eq_true_eq, decide_eq_false_iff_not, Bool.or_eq_true, Bool.or_eq_false_iff, Bool.and_eq_true, Bool.and_eq_false_iff, Bool.not_eq_true', Bool.not_eq_false', Bool.not_eq_true, Bool.not_eq_false, Bool.not_true, Bool.not_false, Int.not_lt, Int.not_le, not_or, not_and, Classical.not_not] at h5
    have h5 : ¬ s = [45, 49] := h5
    refine T_skip_go (fun _ _ h => h) ?_
    refine T_seq ?_
    refine T_region ?_
    refine S_ 6 rfl rfl rfl _ (y_move rfl rfl) ?_
    refine S_ 7 rfl rfl rfl _ (y_call rfl rfl rfl cf266 (fun _ w _ => plainNumberS_any s hs w)) ?_
    refine S_ 8 rfl rfl rfl _ (y_extract rfl rfl rfl) ?_
    refine S_ 9 rfl rfl rfl _ (y_extract rfl rfl rfl) ?_
    refine S_ 2 rfl rfl rfl _ (y_assign rfl rfl) ?_
    refine S_ 3 rfl rfl rfl _ (y_assign rfl rfl) ?_
    refine S_go (fun _ _ h => h) ?_
    refine T_ret (fun a w hF hM => hRb a w (post2 rfl rfl rfl (fun w hM => ?_) a w hF hM))
    exact ⟨by rw [rfJ, rfOk, if_neg h5, decide_eq_false h5]; rfl, hM.below⟩
def numsOk (l : List (List UInt8)) : Bool := l.all fun s => plainOk s 10
def numsP (l : List (List UInt8)) : List Int := if numsOk l = true then l.map nJ else []
theorem nums_step {l : List (List UInt8)} {i : Nat} {m : List Int} {x : List UInt8} (h1 : numsOk l = numsOk (l.drop i)) (h2 : m ++ (l.drop i).map nJ = l.map nJ) (hx : l.drop i = x :: l.drop (i + 1)) (hp : plainOk x 10 = true) :
    numsOk l = numsOk (l.drop (i + 1)) ∧ (m ++ [nJ x]) ++ (l.drop (i + 1)).map nJ = l.map nJ := by
  rw [hx] at h1 h2
  refine ⟨by rw [h1, numsOk, List.all_cons, hp, Bool.true_and]; rfl, ?_⟩
  rw [← h2]; simp
theorem nums_no {l : List (List UInt8)} {i : Nat} {x : List UInt8} (h1 : numsOk l = numsOk (l.drop i)) (hx : l.drop i = x :: l.drop (i + 1)) (hp : plainOk x 10 = false) : numsOk l = false ∧ numsP l = [] := by
  have h : numsOk l = false := by rw [h1, hx, numsOk, List.all_cons, hp, Bool.false_and]
  exact ⟨h, by rw [numsP, h]; rfl⟩
theorem nums_end {l : List (List UInt8)} {i : Nat} {m : List Int} (h1 : numsOk l = numsOk (l.drop i)) (h2 : m ++ (l.drop i).map nJ = l.map nJ) (hx : l.drop i = []) : numsOk l = true ∧ numsP l = m := by
  rw [hx] at h1 h2
  have h : numsOk l = true := h1
  refine ⟨h, ?_⟩
  rw [numsP, if_pos h, ← h2]; simp
theorem readNums_any (A : Option Addr) (q c : Nat) (l : List (List UInt8)) (w : World) (hl : SlT strEnc 1 w A q l) (hq : q ≤ 1000) (hs : ∀ x ∈ l, x.length ≤ 1000000000) :
    Calls Tryz.prog 267 #[.slice A q c] w fun e w' => ∃ B d, e = .returned (.tuple #[.slice B (numsP l).length d, .bool (numsOk l)]) ∧ w'.ownsRow w.heap.size 3 1 (.slice B (numsP l).length d) (numsP l).length ((numsP l).flatMap intE9) ∧ Below w.heap.size w w' := by
  have hlen := hl.len
  refine enter_args (args := [.slice A q c]) (F := _) Tryz.func267 rfl Tryz.ntmps267 rfl rfl ?_
  intro Rb hRb hRn
  refine T_seq ?_
  refine T_region ?_
  refine S_nilSlice 2 (e := 3) (size := 1) ?_
  refine S_ 2 rfl rfl rfl _ (y_assign rfl rfl) ?_
  refine S_ 3 rfl rfl rfl _ (y_assign rfl rfl) ?_
  refine S_go (fun _ _ h => h) ?_
  refine T_seq ?_
  refine T_region ?_
  refine S_nilSlice 4 (e := 3) (size := 1) ?_
  refine S_ 4 rfl rfl rfl _ (y_assign rfl rfl) ?_
  refine S_go (fun _ _ h => h) ?_
  refine T_seq ?_
  refine T_seq ?_
  refine T_region ?_
  refine S_ 9 rfl rfl rfl _ (y_move rfl rfl) ?_
  refine S_ 10 rfl rfl rfl _ (y_len_slice rfl rfl Tryz.underlying57) ?_
  refine S_ 11 rfl rfl rfl _ (y_move rfl rfl) ?_
  refine S_go (fun _ _ h => h) ?_
  refine T_block ?_
  refine T_loopK4 (kf := [(2, 4), (6, 8), (11, 26)]) (kl := [(2, 4), (6, 8), (11, 26)]) (fun (i : Nat) (m : List Int) (B : Option Addr) (d : Nat) => [(11, true, .int .i64 (i : Int)), (4, true, .slice B m.length d)]) (fun (i : Nat) (m : List Int) (B : Option Addr) (d : Nat) => [(4, .own 3 1 (.slice B m.length d) m.length (m.flatMap intE9))]) (fun (i : Nat) (m : List Int) (B : Option Addr) (d : Nat) => i ≤ q ∧ numsOk l = numsOk (l.drop i) ∧ m ++ (l.drop i).map nJ = l.map nJ ∧ m.length = i) (fun (i : Nat) (m : List Int) (B : Option Addr) (d : Nat) => q - i) 0 [] none 0 (by repeat (first | exact kf_nil | (apply kf_in; focus rfl) | (apply kf_out; focus rfl))) (by repeat (first | exact kl_nil | exact kl_rest (by assumption) rfl | (apply kl_in; focus rfl) | (apply kl_out; focus rfl))) ?_ ?_ ?_ ?_
  · exact ⟨by omega, rfl, rfl, rfl⟩
  · exact ⟨rfl, rfl, trivial⟩
  · exact ⟨rfl, trivial⟩
  rintro i m B d ⟨hp1, hp2, hp3, hp4⟩
  refine T_seq ?_
  refine T_region ?_
  refine S_ 12 rfl rfl rfl _ (y_bin rfl rfl rfl (fun _ => b_lss)) ?_
  refine S_go (fun _ _ h => h) ?_
  refine T_seq ?_
  refine T_cond rfl (fun h12 => ?_) (fun h12 => ?_)
  · try simp only [decide_eq_true_eq, decide_eq_false_iff_not, Bool.or_eq_true, Bool.or_eq_false_iff, Bool.and_eq_true, Bool.and_eq_false_iff, Bool.not_eq_true', Bool.not_eq_false', Bool.not_eq_true, Bool.not_eq_false, Bool.not_true, Bool.not_false, Int.not_lt, Int.not_le, not_or, not_and, Classical.not_not] at h12
    obtain ⟨x, hx1, hx2⟩ := hl.at (i := i) (by omega)
    have hxs := hs x (mem_at hx1)
    refine T_skip_go (fun _ _ h => h) ?_
    refine T_seq ?_
    refine T_block ?_
    refine T_seq ?_
    refine T_region ?_
    refine S_ 13 rfl rfl rfl _ (y_indexAddr rfl rfl rfl Tryz.underlying57 sz9 (fun hg => hl.isSome (by omega)) (fun _ => by omega)) ?_
    refine S_ 14 rfl rfl rfl _ (y_loadT1 (val := (fun l : List UInt8 => str l)) rfl rfl hl (fun _ => hx1) Tryz.underlying9 rfl) ?_
    refine S_ 6 rfl rfl rfl _ (y_assign rfl rfl) ?_
    refine S_go (fun _ _ h => h) ?_
    refine T_seq ?_
    refine T_region ?_
    refine S_ 16 rfl rfl rfl _ (y_move rfl rfl) ?_
    refine S_ 17 rfl rfl rfl _ (y_call rfl rfl rfl cf266 (fun _ w _ => plainNumberS_any x (by omega) w)) ?_
    refine S_ 15 rfl rfl rfl _ (y_move rfl rfl) ?_
    refine S_ 18 rfl rfl rfl _ (y_extract rfl rfl rfl) ?_
    refine S_ 19 rfl rfl rfl _ (y_extract rfl rfl rfl) ?_
    refine S_ 7 rfl rfl rfl _ (y_assign rfl rfl) ?_
    refine S_ 8 rfl rfl rfl _ (y_assign rfl rfl) ?_
    refine S_go (fun _ _ h => h) ?_
    refine T_seq ?_
    refine T_seq ?_
    refine T_region ?_
    refine S_ 20 rfl rfl rfl _ (y_move rfl rfl) ?_
    refine S_ 21 rfl rfl rfl _ (y_not rfl rfl) ?_
    refine S_go (fun _ _ h => h) ?_
    refine T_cond rfl (fun h21 => ?_) (fun h21 => ?_)
    · skip
      have hp : plainOk x 10 = false := by simpa using h21
      obtain ⟨e1, e2⟩ := nums_no hp2 hx2 hp
      refine T_seq ?_
      refine T_region ?_
      refine S_nilSlice 2 (e := 3) (size := 1) ?_
      refine S_ 2 rfl rfl rfl _ (y_assign rfl rfl) ?_
      refine S_ 3 rfl rfl rfl _ (y_assign rfl rfl) ?_
      refine S_go (fun _ _ h => h) ?_
      refine T_ret (fun a w hF hM => hRb a w (post2 rfl rfl rfl (fun w hM => ?_) a w hF hM))
      rw [e1, e2]
      exact ⟨none, 0, rfl, World.ownsRow_nil _ _ _ _, hM.below⟩
    · skip
      have hp : plainOk x 10 = true := by simpa using h21
      refine T_skip_go (fun _ _ h => h) ?_
      refine T_region ?_
      refine S_ 22 rfl rfl rfl _ (y_move rfl rfl) ?_
      refine S_ 23 rfl rfl rfl _ (y_move rfl rfl) ?_
      refine S_buildSlice 24 24 rfl rfl rfl rfl rfl Tryz.underlying212 inf3 rfl (by decide) (by decide) rfl rfl (by decide) rfl (_) rfl ?_
      intro b24
      obtain ⟨i25, hi25, hz25, hs25, hy25⟩ := info_parts inf3
      refine S_append 25 4 24 rfl rfl rfl rfl rfl rfl rfl rfl Tryz.underlying212 hi25 hz25 hs25 hy25 rfl (by decide) (by decide) rfl ?_ ?_ ((m ++ [nJ x]).length) ((m ++ [nJ x]).flatMap intE9) ?_ ?_ ?_
      · (simp only [maxLen]; omega)
      · omega
      · simp
      · simp [List.flatMap_append, intE9, nJ]; rfl
      intro A25 c25
      refine S_ 4 rfl rfl rfl _ (y_assign rfl rfl) ?_
      refine S_go (fun _ _ h => h) ?_
      refine T_region ?_
      refine S_ 26 rfl rfl rfl _ (y_bin rfl rfl rfl (fun hg => b_add (by omega))) ?_
      refine S_ 11 rfl rfl rfl _ (y_move rfl rfl) ?_
      obtain ⟨g1, g2⟩ := nums_step hp2 hp3 hx2 hp
      refine S_nil (nextK4 (kf := [(2, 4), (6, 8), (11, 26)]) (kl := [(2, 4), (6, 8), (11, 26)]) (i + 1) (m ++ [nJ x]) A25 c25 (by repeat (first | exact kf_nil | (apply kf_in; focus rfl) | (apply kf_out; focus rfl))) (by repeat (first | exact kl_nil | exact kl_rest (by assumption) rfl | (apply kl_in; focus rfl) | (apply kl_out; focus rfl))) ?_ ?_ ?_ ?_)
      · omega
      · exact ⟨by omega, g1, g2, by simp [hp4]⟩
      · exact ⟨rfl, rfl, trivial⟩
      · exact ⟨rfl, trivial⟩
  · try simp only [decide_eq_true_eq, decide_eq_false_iff_not, Bool.or_eq_true, Bool.or_eq_false_iff, Bool.and_eq_true, Bool.and_eq_false_iff, Bool.not_eq_true', Bool.not_eq_false', Bool.not_eq_true, Bool.not_eq_false, Bool.not_true, Bool.not_false, Int.not_lt, Int.not_le, not_or, not_and, Classical.not_not] at h12
    refine T_exit_go (fun _ _ h => h) ?_
    refine T_seq ?_
    refine T_region ?_
    refine S_ 27 rfl rfl rfl _ (y_move rfl rfl) ?_
    refine S_ 2 rfl rfl rfl _ (y_assign rfl rfl) ?_
    refine S_ 3 rfl rfl rfl _ (y_assign rfl rfl) ?_
    refine S_go (fun _ _ h => h) ?_
    refine T_ret (fun a w hF hM => hRb a w (post2 rfl rfl rfl (fun w hM => ?_) a w hF hM))
    obtain ⟨e1, e2⟩ := nums_end hp2 hp3 (hl.end (by omega))
    rw [e1, e2]
    exact ⟨B, d, rfl, hM.sat 4 _ rfl, hM.below⟩
/-! ### takeLine -/
abbrev tBox (b : Nat) (o : OT) : It := .blk b (IsBox [str o.id, .int .i64 o.size, .slice o.fA o.fl.length o.fc, .slice o.uA o.ul.length o.uc, .slice o.rA o.rl.length o.rc, .slice o.cA o.cl.length o.cc] 62)
def OT.fit (o : OT) (n : Nat) : Prop := o.id.length ≤ 1000000 ∧ (o.fl.length ≤ n ∧ ∀ x ∈ o.fl, x.length ≤ 1000000) ∧ (o.ul.length ≤ n ∧ ∀ x ∈ o.ul, x.name.length ≤ 1000000) ∧ o.rl.length ≤ n ∧ (o.cl.length ≤ n ∧ ∀ x ∈ o.cl, x.name.length ≤ 1000000)
def manyK (k : Int) : Int := if k = 0 then 3 else if k = 1 then 2 else if k = 2 then 4 else if k = 3 then 4 else 6
theorem manyK_at {k : Int} (h : 0 ≤ k ∧ k ≤ 4) : ([.int .i64 3, .int .i64 2, .int .i64 4, .int .i64 4, .int .i64 6] : List Value)[k.toNat]? = some (.int .i64 (manyK k)) := by
  have : k = 0 ∨ k = 1 ∨ k = 2 ∨ k = 3 ∨ k = 4 := by omega
  rcases this with rfl | rfl | rfl | rfl | rfl <;> rfl
theorem line_many {k : Int} (h : 0 ≤ k ∧ k ≤ 4) {ws : List (List UInt8)} {p : PT} (hn : ¬ ((ws.length : Nat) : Int) = manyK k) : lineT k ws p = none := by
  have : k = 0 ∨ k = 1 ∨ k = 2 ∨ k = 3 ∨ k = 4 := by omega
  rcases this with rfl | rfl | rfl | rfl | rfl
  · unfold lineT; exact (if_pos rfl).trans (if_neg fun hh => hn (by rw [hh.1]; rfl))
  · unfold lineT; exact (if_neg (by decide)).trans ((if_pos rfl).trans (if_neg fun hh => hn (by rw [hh.1]; rfl)))
  · unfold lineT; exact (if_neg (by decide)).trans ((if_neg (by decide)).trans ((if_pos rfl).trans (if_neg fun hh => hn (by rw [hh.1]; rfl))))
  · unfold lineT; exact (if_neg (by decide)).trans ((if_neg (by decide)).trans ((if_neg (by decide)).trans ((if_pos rfl).trans (if_neg fun hh => hn (by rw [hh.1]; rfl)))))
  · unfold lineT; exact (if_neg (by decide)).trans ((if_neg (by decide)).trans ((if_neg (by decide)).trans ((if_neg (by decide)).trans ((if_neg fun hh => hn (by rw [hh.1]; rfl))))))
theorem line0 (a b c : List UInt8) (p : PT) : lineT 0 [a, b, c] p = if (plainOk c 10 && !decide (b = [])) = true then some { p with id := b, size := nJ c } else none := by
  unfold lineT
  by_cases h : b = [] <;> cases h2 : plainOk c 10 <;> simp [h, h2]
theorem line1 (a b : List UInt8) (p : PT) : lineT 1 [a, b] p = if (!decide (b = [])) = true then some { p with fi := p.fi ++ [b] } else none := by
  unfold lineT
  by_cases h : b = [] <;> simp [h]
theorem line2 (a b c d : List UInt8) (p : PT) : lineT 2 [a, b, c, d] p = if (numsOk [b, c] && !decide (d = [])) = true then some { p with fu := p.fu ++ [⟨d, nJ b, nJ c⟩] } else none := by
  unfold lineT numsOk
  by_cases h : d = [] <;> cases h1 : plainOk b 10 <;> cases h2 : plainOk c 10 <;> simp [h, h1, h2]
theorem line3 (a b c d : List UInt8) (p : PT) : lineT 3 [a, b, c, d] p = if (plainOk b 10 && rfOk c && plainOk d 10) = true then some { p with ro := p.ro ++ [⟨nJ b, rfJ c, nJ d⟩] } else none := by
  unfold lineT
  cases h1 : plainOk b 10 <;> cases h2 : rfOk c <;> cases h3 : plainOk d 10 <;> simp [h1, h2, h3]
theorem line4 (a b c d e f : List UInt8) (p : PT) : lineT 4 [a, b, c, d, e, f] p = if (numsOk [b, c, d, e] && !decide (f = [])) = true then some { p with ca := p.ca ++ [⟨f, nJ b, nJ c, nJ d, nJ e⟩] } else none := by
  unfold lineT numsOk
  by_cases h : f = [] <;> cases h1 : plainOk b 10 <;> cases h2 : plainOk c 10 <;> cases h3 : plainOk d 10 <;> cases h4 : plainOk e 10 <;> simp [h, h1, h2, h3, h4]
theorem take_ret {x : Option PT} {β : Bool} {p : PT} (h : x = if β = true then some p else none) : x.isSome = β ∧ ∀ p', x = some p' → p = p' := by
  cases β with
  | false => rw [if_neg Bool.false_ne_true] at h; subst h; exact ⟨rfl, fun _ hh => by cases hh⟩
  | true => rw [if_pos rfl] at h; subst h; exact ⟨rfl, fun _ hh => by cases hh; rfl⟩
theorem take_no {x : Option PT} {β γ : Bool} {p : PT} (h : x = if (β && γ) = true then some p else none) (hb : β = false) : x = none := by
  rw [hb, Bool.false_and, if_neg Bool.false_ne_true] at h; exact h
theorem len_2 {ws : List (List UInt8)} (h : ((ws.length : Nat) : Int) = 2) : ∃ a b, ws = [a, b] := by
  match ws, h with
  | [a, b], _ => exact ⟨a, b, rfl⟩
  | [], h => simp at h
  | [a], h => simp at h
  | _ :: _ :: _ :: _, h => simp at h; omega
theorem len_3 {ws : List (List UInt8)} (h : ((ws.length : Nat) : Int) = 3) : ∃ a b c, ws = [a, b, c] := by
  match ws, h with
  | a :: r, h =>
    obtain ⟨b, c, e⟩ := len_2 (ws := r) (by simp at h; omega)
    exact ⟨a, b, c, by rw [e]⟩
theorem len_4 {ws : List (List UInt8)} (h : ((ws.length : Nat) : Int) = 4) : ∃ a b c d, ws = [a, b, c, d] := by
  match ws, h with
  | a :: r, h =>
    obtain ⟨b, c, d, e⟩ := len_3 (ws := r) (by simp at h; omega)
    exact ⟨a, b, c, d, by rw [e]⟩
theorem len_6 {ws : List (List UInt8)} (h : ((ws.length : Nat) : Int) = 6) : ∃ a b c d e f, ws = [a, b, c, d, e, f] := by
  match ws, h with
  | a :: b :: r, h =>
    obtain ⟨c, d, e, f, e'⟩ := len_4 (ws := r) (by simp at h; omega)
    exact ⟨a, b, c, d, e, f, by rw [e']⟩
theorem nums2 {b c : List UInt8} (h : numsOk [b, c] = true) : numsP [b, c] = [nJ b, nJ c] := if_pos h
theorem nums4 {b c d e : List UInt8} (h : numsOk [b, c, d, e] = true) : numsP [b, c, d, e] = [nJ b, nJ c, nJ d, nJ e] := if_pos h
theorem takeLine_any {w0 : World} {K : HL} (hK : FromK K) (bt : Nat) (o : OT) (n : Nat) (hn : n ≤ 1000000) (ho : o.fit n) (k : Int) (hk : 0 ≤ k ∧ k ≤ 4) (wA : Option Addr) (wc : Nat) (ws : List (List UInt8)) (hs : ∀ x ∈ ws, x.length ≤ 1000000) (w : World)
    (hM0 : Mem w0 ([(901, tBox bt o), (902, rF wA wc ws), (908, rF o.fA o.fc o.fl), (909, rU o.uA o.uc o.ul), (910, rR o.rA o.rc o.rl), (911, rC o.cA o.cc o.cl)] ++ K) w) :
    Calls Tryz.prog 129 #[selfP bt, .int .i64 k, .slice wA ws.length wc] w fun e w' => ∃ z : OT, e = .returned (.bool (lineT k ws o.tab.pl).isSome) ∧ ((∀ p', lineT k ws o.tab.pl = some p' → z.tab.pl = p') ∧ z.fit (n + 1)) ∧
      Mem w0 ([(901, tBox bt z), (902, rF wA wc ws), (908, rF z.fA z.fc z.fl), (909, rU z.uA z.uc z.ul), (910, rR z.rA z.rc z.rl), (911, rC z.cA z.cc z.cl)] ++ K) w' := by
  obtain ⟨f1, f2, f3, f4, f5⟩ := ho
  refine enterM_args (args := [selfP bt, .int .i64 k, .slice wA ws.length wc]) (F := _) hM0 Tryz.func129 rfl Tryz.ntmps129 rfl rfl ?_
  intro Rb hRb hRn
  refine T_seq ?_
  refine T_region ?_
  refine S_ 6 rfl rfl rfl _ (y_assign rfl rfl) ?_
  refine S_go (fun _ _ h => h) ?_
  refine T_seq ?_
  refine T_seq ?_
  refine T_region ?_
  refine S_ 19 rfl rfl rfl _ (y_move rfl rfl) ?_
  refine S_ 20 rfl rfl rfl _ (y_len_slice rfl rfl Tryz.underlying57) ?_
  refine S_ 21 rfl rfl rfl _ (y_buildArr (zv := .agg #[.int .i64 0, .int .i64 0, .int .i64 0, .int .i64 0, .int .i64 0]) (out := [.int .i64 3, .int .i64 2, .int .i64 4, .int .i64 4, .int .i64 6]) rfl rfl Tryz.underlying308 z308 sz3 (by kernel_rfl)) ?_
  refine S_ 22 rfl rfl rfl _ (y_move rfl rfl) ?_
  refine S_ 23 rfl rfl rfl _ (y_indexArrV (v := .int .i64 (manyK k)) rfl rfl rfl Tryz.underlying308 sz3 Tryz.underlying3 rfl (fun hg => ⟨hk.1, by omega⟩) (fun hg => manyK_at hk)) ?_
  refine S_ 24 rfl rfl rfl _ (y_bin rfl rfl rfl (fun _ => b_neq)) ?_
  refine S_go (fun _ _ h => h) ?_
  refine T_cond rfl (fun h24 => ?_) (fun h24 => ?_)
  · skip
    have hl : ¬ ((ws.length : Nat) : Int) = manyK k := by simpa using h24
    refine T_seq ?_
    refine T_region ?_
    refine S_ 6 rfl rfl rfl _ (y_assign rfl rfl) ?_
    refine S_go (fun _ _ h => h) ?_
    refine T_ret (fun a w hF hM => hRb a w (post1 rfl rfl (fun w hM => ?_) a w hF hM))
    have hn := line_many hk hl (p := o.tab.pl)
    rw [hn]
    exact ⟨o, rfl, ⟨fun p h => absurd h (by simp), f1, ⟨by show o.fl.length ≤ _; omega, f2.2⟩, ⟨by show o.ul.length ≤ _; omega, f3.2⟩, by show o.rl.length ≤ _; omega, ⟨by show o.cl.length ≤ _; omega, f5.2⟩⟩, hM.keep (ks := [(0, 999)]) (by repeat (first | exact kl_rest (by assumption) rfl | (apply kl_in; focus rfl))) _ ⟨rfl, rfl, rfl, rfl, rfl, rfl, trivial⟩⟩
  · skip
    have hl : ((ws.length : Nat) : Int) = manyK k := by simpa using h24
    refine T_skip_go (fun _ _ h => h) ?_
    refine T_seq ?_
    refine T_seq ?_
    refine T_region ?_
    refine S_ 25 rfl rfl rfl _ (y_move rfl rfl) ?_
    refine S_go (fun _ _ h => h) ?_
    refine T_block ?_
    refine T_seq ?_
    refine T_region ?_
    refine S_ 27 rfl rfl rfl _ (y_bin rfl rfl rfl (fun _ => b_eql)) ?_
    refine S_ 26 rfl rfl rfl _ (y_assign rfl rfl) ?_
    refine S_go (fun _ _ h => h) ?_
    refine T_cond rfl (fun h26 => ?_) (fun h26 => ?_)
    · skip
      have hk0 : k = 0 := by simpa using h26
      subst hk0
      obtain ⟨x0, b, c, rfl⟩ := len_3 hl
      have hc := hs c (by simp)
      have hb := hs b (by simp)
      refine T_seq ?_
      refine T_region ?_
      refine S_ 29 rfl rfl rfl _ (y_move rfl rfl) ?_
      refine S_ 30 rfl rfl rfl _ (y_indexOwnI (j := 2) 902 rfl rfl rfl (fun _ => rfl) rfl Tryz.underlying57 sz9 (fun _ => by simp)) ?_
      refine S_ 31 rfl rfl rfl _ (y_loadO1 902 (val := (fun l : List UInt8 => str l)) rfl rfl rfl rfl (fun _ => rfl) Tryz.underlying9 rfl) ?_
      refine S_ 32 rfl rfl rfl _ (y_call rfl rfl rfl cf266 (fun _ w _ => plainNumberS_any c (by omega) w)) ?_
      refine S_ 28 rfl rfl rfl _ (y_move rfl rfl) ?_
      refine S_ 33 rfl rfl rfl _ (y_extract rfl rfl rfl) ?_
      refine S_ 34 rfl rfl rfl _ (y_extract rfl rfl rfl) ?_
      refine S_ 7 rfl rfl rfl _ (y_assign rfl rfl) ?_
      refine S_ 8 rfl rfl rfl _ (y_assign rfl rfl) ?_
      refine S_go (fun _ _ h => h) ?_
      refine T_seq ?_
      refine T_region ?_
      refine S_ 35 rfl rfl rfl _ (y_move rfl rfl) ?_
      refine S_ 36 rfl rfl rfl _ (y_move rfl rfl) ?_
      refine S_ 37 rfl rfl rfl _ (y_move rfl rfl) ?_
      refine S_ 38 rfl rfl rfl _ (y_indexOwnI (j := 1) 902 rfl rfl rfl (fun _ => rfl) rfl Tryz.underlying57 sz9 (fun _ => by simp)) ?_
      refine S_ 39 rfl rfl rfl _ (y_loadO1 902 (val := (fun l : List UInt8 => str l)) rfl rfl rfl rfl (fun _ => rfl) Tryz.underlying9 rfl) ?_
      refine S_ 40 rfl rfl rfl _ (y_move rfl rfl) ?_
      refine S_ 41 rfl rfl rfl _ (y_nilCheck rfl rfl) ?_
      refine S_ 42 rfl rfl rfl _ (y_fieldAddr rfl rfl fa62_0) ?_
      refine S_store 901 rfl rfl rfl rfl rfl rfl sz9 rfl rfl ?_
      refine S_ 43 rfl rfl rfl _ (y_nilCheck rfl rfl) ?_
      refine S_ 44 rfl rfl rfl _ (y_fieldAddr rfl rfl fa62_1) ?_
      refine S_store 901 rfl rfl rfl rfl rfl rfl sz3 rfl rfl ?_
      refine S_go (fun _ _ h => h) ?_
      refine T_seq ?_
      refine T_region ?_
      refine S_ 45 rfl rfl rfl _ (y_move rfl rfl) ?_
      refine S_ 46 rfl rfl rfl _ (y_move rfl rfl) ?_
      refine Sg_ 47 rfl rfl rfl rfl rfl rfl _ (y_move rfl rfl) ?_
      refine Sg_ 48 rfl rfl rfl rfl rfl rfl _ (y_indexOwnI (j := 1) 902 rfl rfl rfl (fun _ => rfl) rfl Tryz.underlying57 sz9 (fun _ => by simp)) ?_
      refine Sg_ 49 rfl rfl rfl rfl rfl rfl _ (y_loadO1 902 (val := (fun l : List UInt8 => str l)) rfl rfl rfl rfl (fun _ => rfl) Tryz.underlying9 rfl) ?_
      refine Sg_ 50 rfl rfl rfl rfl rfl rfl _ (y_bin rfl rfl rfl (fun _ => b_neqs)) ?_
      refine S_ 51 rfl rfl rfl _ (y_and rfl rfl rfl) ?_
      refine S_ 6 rfl rfl rfl _ (y_assign rfl rfl) ?_
      refine S_go (fun _ _ h => h) ?_
      refine T_ret (fun a w hF hM => hRb a w (post1 rfl rfl (fun w hM => ?_) a w hF hM))
      obtain ⟨r1, r2⟩ := take_ret (line0 x0 b c o.tab.pl)
      rw [r1]
      exact ⟨{ o with id := b, size := nJ c }, rfl, ⟨r2, hb, ⟨by show o.fl.length ≤ _; omega, f2.2⟩, ⟨by show o.ul.length ≤ _; omega, f3.2⟩, by show o.rl.length ≤ _; omega, ⟨by show o.cl.length ≤ _; omega, f5.2⟩⟩, hM.keep (ks := [(0, 999)]) (by repeat (first | exact kl_rest (by assumption) rfl | (apply kl_in; focus rfl))) _ ⟨rfl, rfl, rfl, rfl, rfl, rfl, trivial⟩⟩
    · skip
      have hk0 : ¬ k = 0 := by simpa using h26
      refine T_seq ?_
      refine T_region ?_
      refine S_ 53 rfl rfl rfl _ (y_bin rfl rfl rfl (fun _ => b_eql)) ?_
      refine S_ 52 rfl rfl rfl _ (y_assign rfl rfl) ?_
      refine S_go (fun _ _ h => h) ?_
      refine T_cond rfl (fun h52 => ?_) (fun h52 => ?_)
      · skip
        have hk1 : k = 1 := by simpa using h52
        subst hk1
        obtain ⟨x0, b, rfl⟩ := len_2 hl
        have hb := hs b (by simp)
        refine T_seq ?_
        refine T_perm [0, 1, 2, 3, 4, 5, 6, 7, 8, 9, 10, 11, 12] [true, true, true, true, true, true, true, true, false, false, true, true, false] [0, 0, 2, 6, 14, 0, 32, 96, 224, 510, 1023, 2047, 4095] [(4, [901]), (6, [902]), (7, [902])] (by kernel_rfl) (by kernel_rfl) (by kernel_rfl) rfl (by kernel_rfl) ?_
        refine Rf_ 0 54 rfl rfl rfl rfl rfl _ trivial (Y.z (y_move rfl rfl) rfl) ?_
        refine Rf_ 1 55 rfl rfl rfl rfl rfl _ trivial (Y.z (y_move rfl rfl) rfl) ?_
        refine Rf_ 2 56 rfl rfl rfl rfl rfl _ trivial (Z.of (z_nilCheck rfl rfl)) ?_
        refine Rf_ 3 57 rfl rfl rfl rfl rfl _ trivial (Y.z (y_fieldAddr rfl rfl fa62_2) rfl) ?_
        refine Rf_ 4 58 rfl rfl rfl rfl rfl _ ⟨rfl, trivial⟩ (Y.z (y_load 901 rfl rfl rfl rfl Tryz.underlying57 rfl) rfl) ?_
        refine Rf_ 5 59 rfl rfl rfl rfl rfl _ trivial (Y.z (y_move rfl rfl) rfl) ?_
        refine Rf_ 6 60 rfl rfl rfl rfl rfl _ ⟨rfl, trivial⟩ (Y.z (y_indexOwnI (j := 1) 902 rfl rfl rfl (fun _ => rfl) rfl Tryz.underlying57 sz9 (fun _ => by simp)) rfl) ?_
        refine Rf_ 7 61 rfl rfl rfl rfl rfl _ ⟨rfl, trivial⟩ (Y.z (y_loadO1 902 (val := (fun l : List UInt8 => str l)) rfl rfl rfl rfl (fun _ => rfl) Tryz.underlying9 rfl) rfl) ?_
        refine R_chain 8 rfl rfl ?_
        refine S_buildSlice 62 62 rfl rfl rfl rfl rfl Tryz.underlying57 inf9 rfl (by decide) (by decide) rfl rfl (by decide) rfl (_) rfl ?_
        intro b62
        refine R_next ⟨.inr ⟨rfl, trivial⟩, .inl rfl, .inl rfl, trivial⟩ ?_
        refine R_chain 9 rfl rfl ?_
        obtain ⟨i63, hi63, hz63, hs63, hy63⟩ := info_parts inf9
        refine S_append 63 908 62 rfl rfl rfl rfl rfl rfl rfl rfl Tryz.underlying57 hi63 hz63 hs63 hy63 rfl (by decide) (by decide) rfl ?_ ?_ ((o.fl ++ [b]).length) ((o.fl ++ [b]).flatMap strEnc) ?_ ?_ ?_
        · (simp only [maxLen]; omega)
        · omega
        · simp
        · simp [List.flatMap_append, strEnc]; rfl
        intro A63 c63
        refine R_next ⟨.inl rfl, .inl rfl, .inl rfl, trivial⟩ ?_
        refine Rf_ 10 64 rfl rfl rfl rfl rfl _ trivial (Z.of (z_nilCheck rfl rfl)) ?_
        refine Rf_ 11 65 rfl rfl rfl rfl rfl _ trivial (Y.z (y_fieldAddr rfl rfl fa62_2) rfl) ?_
        refine R_chain 12 rfl rfl ?_
        refine S_store 901 rfl rfl rfl rfl rfl rfl sz57 rfl rfl ?_
        refine R_next ⟨.inl rfl, .inl rfl, .inl rfl, trivial⟩ ?_
        refine R_go (fun _ _ h => h) ?_
        refine T_seq ?_
        refine T_region ?_
        refine S_ 66 rfl rfl rfl _ (y_move rfl rfl) ?_
        refine S_ 67 rfl rfl rfl _ (y_indexOwnI (j := 1) 902 rfl rfl rfl (fun _ => rfl) rfl Tryz.underlying57 sz9 (fun _ => by simp)) ?_
        refine S_ 68 rfl rfl rfl _ (y_loadO1 902 (val := (fun l : List UInt8 => str l)) rfl rfl rfl rfl (fun _ => rfl) Tryz.underlying9 rfl) ?_
        refine S_ 69 rfl rfl rfl _ (y_bin rfl rfl rfl (fun _ => b_neqs)) ?_
        refine S_ 6 rfl rfl rfl _ (y_assign rfl rfl) ?_
        refine S_go (fun _ _ h => h) ?_
        refine T_ret (fun a w hF hM => hRb a w (post1 rfl rfl (fun w hM => ?_) a w hF hM))
        obtain ⟨r1, r2⟩ := take_ret (line1 x0 b o.tab.pl)
        rw [r1]
        exact ⟨{ o with fA := A63, fc := c63, fl := o.fl ++ [b] }, rfl, ⟨r2, f1, ⟨by show (o.fl ++ [b]).length ≤ _; rw [List.length_append]; show o.fl.length + 1 ≤ n + 1; omega, all_snoc rfl f2.2 hb⟩, ⟨by show o.ul.length ≤ _; omega, f3.2⟩, by show o.rl.length ≤ _; omega, ⟨by show o.cl.length ≤ _; omega, f5.2⟩⟩, hM.keep (ks := [(0, 999)]) (by repeat (first | exact kl_rest (by assumption) rfl | (apply kl_in; focus rfl))) _ ⟨rfl, rfl, rfl, rfl, rfl, rfl, trivial⟩⟩
      · skip
        have hk1 : ¬ k = 1 := by simpa using h52
        refine T_seq ?_
        refine T_region ?_
        refine S_ 71 rfl rfl rfl _ (y_bin rfl rfl rfl (fun _ => b_eql)) ?_
        refine S_ 70 rfl rfl rfl _ (y_assign rfl rfl) ?_
        refine S_go (fun _ _ h => h) ?_
        refine T_cond rfl (fun h70 => ?_) (fun h70 => ?_)
        · skip
          have hk2 : k = 2 := by simpa using h70
          subst hk2
          obtain ⟨x0, b, c, d, rfl⟩ := len_4 hl
          have hd := hs d (by simp)
          refine T_cap 902 rfl fun hcap => ?_
          refine T_seq ?_
          refine T_region ?_
          refine S_ 73 rfl rfl rfl _ (y_move rfl rfl) ?_
          refine S_ 74 rfl rfl rfl _ (y_slice (lo := 1) (hi := 3) rfl rfl Tryz.underlying57 sz9 (.inr ⟨_, _, rfl, rfl⟩) (.inr ⟨_, _, rfl, rfl⟩) (by omega) (by simp) hcap) ?_
          refine S_callOwn 75 75 rfl rfl rfl rfl rfl rfl rfl cf267 (fun A0 c0 => .tuple #[.slice A0 (numsP [b, c]).length c0, .bool (numsOk [b, c])]) 3 1 ((numsP [b, c]).length) ((numsP [b, c]).flatMap intE9) (fun w hM => readNums_any _ _ _ [b, c] w ((owned_T (enc := strEnc) hM rfl (i := 902) rfl).cut (lo := 1) (hi := 3) (fun _ => rfl) (by omega) (by simp) hcap) (by omega) (fun x hx => by have := hs x (List.mem_of_mem_drop (i := 1) (List.mem_of_mem_take (i := 2) hx)); omega)) ?_
          intro A75 c75
          refine S_ 72 rfl rfl rfl _ (y_move rfl rfl) ?_
          refine S_ 76 rfl rfl rfl _ (y_extract rfl rfl rfl) ?_
          refine S_ 77 rfl rfl rfl _ (y_extract rfl rfl rfl) ?_
          refine S_ 9 rfl rfl rfl _ (y_assign rfl rfl) ?_
          refine S_ 10 rfl rfl rfl _ (y_assign rfl rfl) ?_
          refine S_go (fun _ _ h => h) ?_
          refine T_seq ?_
          refine T_seq ?_
          refine T_region ?_
          refine S_ 78 rfl rfl rfl _ (y_move rfl rfl) ?_
          refine S_go (fun _ _ h => h) ?_
          refine T_cond rfl (fun h78 => ?_) (fun h78 => ?_)
          · skip
            have e1 : numsOk [b, c] = true := h78
            have e2 := nums2 e1
            refine T_perm [0, 1, 2, 3, 4, 5, 6, 7, 8, 9, 10, 11, 12, 13, 14, 15, 16, 17, 18, 19] [true, true, true, true, true, true, true, true, true, true, true, true, true, true, true, false, false, true, true, false] [0, 0, 2, 6, 14, 0, 32, 96, 0, 256, 768, 0, 2048, 6144, 16352, 32736, 65534, 131071, 262143, 524287] [(4, [901]), (6, [902]), (7, [902]), (9, [75]), (10, [75]), (12, [75]), (13, [75])] (by kernel_rfl) (by kernel_rfl) (by kernel_rfl) rfl (by kernel_rfl) ?_
            refine Rf_ 0 79 rfl rfl rfl rfl rfl _ trivial (Y.z (y_move rfl rfl) rfl) ?_
            refine Rf_ 1 80 rfl rfl rfl rfl rfl _ trivial (Y.z (y_move rfl rfl) rfl) ?_
            refine Rf_ 2 81 rfl rfl rfl rfl rfl _ trivial (Z.of (z_nilCheck rfl rfl)) ?_
            refine Rf_ 3 82 rfl rfl rfl rfl rfl _ trivial (Y.z (y_fieldAddr rfl rfl fa62_3) rfl) ?_
            refine Rf_ 4 83 rfl rfl rfl rfl rfl _ ⟨rfl, trivial⟩ (Y.z (y_load 901 rfl rfl rfl rfl Tryz.underlying58 rfl) rfl) ?_
            refine Rf_ 5 84 rfl rfl rfl rfl rfl _ trivial (Y.z (y_move rfl rfl) rfl) ?_
            refine Rf_ 6 85 rfl rfl rfl rfl rfl _ ⟨rfl, trivial⟩ (Y.z (y_indexOwnI (j := 3) 902 rfl rfl rfl (fun _ => rfl) rfl Tryz.underlying57 sz9 (fun _ => by simp)) rfl) ?_
            refine Rf_ 7 86 rfl rfl rfl rfl rfl _ ⟨rfl, trivial⟩ (Y.z (y_loadO1 902 (val := (fun l : List UInt8 => str l)) rfl rfl rfl rfl (fun _ => rfl) Tryz.underlying9 rfl) rfl) ?_
            refine Rf_ 8 87 rfl rfl rfl rfl rfl _ trivial (Y.z (y_move rfl rfl) rfl) ?_
            refine Rf_ 9 88 rfl rfl rfl rfl rfl _ ⟨rfl, trivial⟩ (Y.z (y_indexOwnI (j := 0) 75 rfl rfl rfl (fun _ => rfl) rfl Tryz.underlying212 sz3 (fun _ => by rw [e2]; simp)) rfl) ?_
            refine Rf_ 10 89 rfl rfl rfl rfl rfl _ ⟨rfl, trivial⟩ (Y.z (y_loadO1 75 (val := (fun n : Int => Value.int .i64 n)) rfl rfl rfl rfl (fun _ => by rw [e2]; rfl) Tryz.underlying3 rfl) rfl) ?_
            refine Rf_ 11 90 rfl rfl rfl rfl rfl _ trivial (Y.z (y_move rfl rfl) rfl) ?_
            refine Rf_ 12 91 rfl rfl rfl rfl rfl _ ⟨rfl, trivial⟩ (Y.z (y_indexOwnI (j := 1) 75 rfl rfl rfl (fun _ => rfl) rfl Tryz.underlying212 sz3 (fun _ => by rw [e2]; simp)) rfl) ?_
            refine Rf_ 13 92 rfl rfl rfl rfl rfl _ ⟨rfl, trivial⟩ (Y.z (y_loadO1 75 (val := (fun n : Int => Value.int .i64 n)) rfl rfl rfl rfl (fun _ => by rw [e2]; rfl) Tryz.underlying3 rfl) rfl) ?_
            refine Rf_ 14 93 rfl rfl rfl rfl rfl _ trivial (Y.z (y_build (zv := .agg #[.string ⟨#[]⟩, .int .i64 0, .int .i64 0]) (pl := [(0, 1), (1, 1), (2, 1)]) (out := [_, _, _]) rfl rfl Tryz.underlying196 z196 (by kernel_rfl) rfl) rfl) ?_
            refine R_chain 15 rfl rfl ?_
            refine S_buildSlice 94 94 rfl rfl rfl rfl rfl Tryz.underlying58 inf196 rfl (by decide) (by decide) rfl rfl (by decide) rfl (_) rfl ?_
            intro b94
            refine R_next ⟨.inr ⟨rfl, trivial⟩, .inl rfl, .inl rfl, .inl rfl, .inl rfl, .inl rfl, .inl rfl, trivial⟩ ?_
            refine R_chain 16 rfl rfl ?_
            obtain ⟨i95, hi95, hz95, hs95, hy95⟩ := info_parts inf196
            refine S_append 95 909 94 rfl rfl rfl rfl rfl rfl rfl rfl Tryz.underlying58 hi95 hz95 hs95 hy95 rfl (by decide) (by decide) rfl ?_ ?_ ((o.ul ++ [(⟨d, nJ b, nJ c⟩ : SFunc)]).length) ((o.ul ++ [(⟨d, nJ b, nJ c⟩ : SFunc)]).flatMap SFunc.enc) ?_ ?_ ?_
            · (simp only [maxLen]; omega)
            · omega
            · simp
            · simp [List.flatMap_append, SFunc.enc]; rfl
            intro A95 c95
            refine R_next ⟨.inl rfl, .inl rfl, .inl rfl, .inl rfl, .inl rfl, .inl rfl, .inl rfl, trivial⟩ ?_
            refine Rf_ 17 96 rfl rfl rfl rfl rfl _ trivial (Z.of (z_nilCheck rfl rfl)) ?_
            refine Rf_ 18 97 rfl rfl rfl rfl rfl _ trivial (Y.z (y_fieldAddr rfl rfl fa62_3) rfl) ?_
            refine R_chain 19 rfl rfl ?_
            refine S_store 901 rfl rfl rfl rfl rfl rfl sz58 rfl rfl ?_
            refine R_next ⟨.inl rfl, .inl rfl, .inl rfl, .inl rfl, .inl rfl, .inl rfl, .inl rfl, trivial⟩ ?_
            refine R_go (fun _ _ h => h) ?_
            refine T_seq ?_
            refine T_region ?_
            refine S_ 98 rfl rfl rfl _ (y_move rfl rfl) ?_
            refine S_ 99 rfl rfl rfl _ (y_move rfl rfl) ?_
            refine Sg_ 100 rfl rfl rfl rfl rfl rfl _ (y_move rfl rfl) ?_
            refine Sg_ 101 rfl rfl rfl rfl rfl rfl _ (y_indexOwnI (j := 3) 902 rfl rfl rfl (fun _ => rfl) rfl Tryz.underlying57 sz9 (fun _ => by simp)) ?_
            refine Sg_ 102 rfl rfl rfl rfl rfl rfl _ (y_loadO1 902 (val := (fun l : List UInt8 => str l)) rfl rfl rfl rfl (fun _ => rfl) Tryz.underlying9 rfl) ?_
            refine Sg_ 103 rfl rfl rfl rfl rfl rfl _ (y_bin rfl rfl rfl (fun _ => b_neqs)) ?_
            refine S_ 104 rfl rfl rfl _ (y_and rfl rfl rfl) ?_
            refine S_ 6 rfl rfl rfl _ (y_assign rfl rfl) ?_
            refine S_go (fun _ _ h => h) ?_
            refine T_ret (fun a w hF hM => hRb a w (post1 rfl rfl (fun w hM => ?_) a w hF hM))
            obtain ⟨r1, r2⟩ := take_ret (line2 x0 b c d o.tab.pl)
            rw [r1]
            exact ⟨{ o with uA := A95, uc := c95, ul := o.ul ++ [(⟨d, nJ b, nJ c⟩ : SFunc)] }, rfl, ⟨r2, f1, ⟨by show o.fl.length ≤ _; omega, f2.2⟩, ⟨by show (o.ul ++ [(⟨d, nJ b, nJ c⟩ : SFunc)]).length ≤ _; rw [List.length_append]; show o.ul.length + 1 ≤ n + 1; omega, all_snoc rfl f3.2 hd⟩, by show o.rl.length ≤ _; omega, ⟨by show o.cl.length ≤ _; omega, f5.2⟩⟩, hM.keep (ks := [(0, 999)]) (by repeat (first | exact kl_rest (by assumption) rfl | (apply kl_in; focus rfl))) _ ⟨rfl, rfl, rfl, rfl, rfl, rfl, trivial⟩⟩
          · skip
            have e1 : numsOk [b, c] = false := h78
            refine T_skip_go (fun _ _ h => h) ?_
            refine T_seq ?_
            refine T_region ?_
            refine S_ 98 rfl rfl rfl _ (y_move rfl rfl) ?_
            refine S_ 99 rfl rfl rfl _ (y_move rfl rfl) ?_
            refine Sg_ 100 rfl rfl rfl rfl rfl rfl _ (y_move rfl rfl) ?_
            refine Sg_ 101 rfl rfl rfl rfl rfl rfl _ (y_indexOwnI (j := 3) 902 rfl rfl rfl (fun _ => rfl) rfl Tryz.underlying57 sz9 (fun _ => by simp)) ?_
            refine Sg_ 102 rfl rfl rfl rfl rfl rfl _ (y_loadO1 902 (val := (fun l : List UInt8 => str l)) rfl rfl rfl rfl (fun _ => rfl) Tryz.underlying9 rfl) ?_
            refine Sg_ 103 rfl rfl rfl rfl rfl rfl _ (y_bin rfl rfl rfl (fun _ => b_neqs)) ?_
            refine S_ 104 rfl rfl rfl _ (y_and rfl rfl rfl) ?_
            refine S_ 6 rfl rfl rfl _ (y_assign rfl rfl) ?_
            refine S_go (fun _ _ h => h) ?_
            refine T_ret (fun a w hF hM => hRb a w (post1 rfl rfl (fun w hM => ?_) a w hF hM))
            obtain ⟨r1, r2⟩ := take_ret (line2 x0 b c d o.tab.pl)
            have r3 := take_no (line2 x0 b c d o.tab.pl) e1
            rw [r1]
            exact ⟨o, rfl, ⟨fun p h => absurd (r3.symm.trans h) (by simp), f1, ⟨by show o.fl.length ≤ _; omega, f2.2⟩, ⟨by show o.ul.length ≤ _; omega, f3.2⟩, by show o.rl.length ≤ _; omega, ⟨by show o.cl.length ≤ _; omega, f5.2⟩⟩, hM.keep (ks := [(0, 999)]) (by repeat (first | exact kl_rest (by assumption) rfl | (apply kl_in; focus rfl))) _ ⟨rfl, rfl, rfl, rfl, rfl, rfl, trivial⟩⟩
        · skip
          have hk2 : ¬ k = 2 := by simpa using h70
          refine T_seq ?_
          refine T_region ?_
          refine S_ 106 rfl rfl rfl _ (y_bin rfl rfl rfl (fun _ => b_eql)) ?_
          refine S_ 105 rfl rfl rfl _ (y_assign rfl rfl) ?_
          refine S_go (fun _ _ h => h) ?_
          refine T_cond rfl (fun h105 => ?_) (fun h105 => ?_)
          · skip
            have hk3 : k = 3 := by simpa using h105
            subst hk3
            obtain ⟨x0, b, c, d, rfl⟩ := len_4 hl
            have hb := hs b (by simp)
            have hc := hs c (by simp)
            have hd := hs d (by simp)
            refine T_seq ?_
            refine T_region ?_
            refine S_ 108 rfl rfl rfl _ (y_move rfl rfl) ?_
            refine S_ 109 rfl rfl rfl _ (y_indexOwnI (j := 1) 902 rfl rfl rfl (fun _ => rfl) rfl Tryz.underlying57 sz9 (fun _ => by simp)) ?_
            refine S_ 110 rfl rfl rfl _ (y_loadO1 902 (val := (fun l : List UInt8 => str l)) rfl rfl rfl rfl (fun _ => rfl) Tryz.underlying9 rfl) ?_
            refine S_ 111 rfl rfl rfl _ (y_call rfl rfl rfl cf266 (fun _ w _ => plainNumberS_any b (by omega) w)) ?_
            refine S_ 107 rfl rfl rfl _ (y_move rfl rfl) ?_
            refine S_ 112 rfl rfl rfl _ (y_extract rfl rfl rfl) ?_
            refine S_ 113 rfl rfl rfl _ (y_extract rfl rfl rfl) ?_
            refine S_ 11 rfl rfl rfl _ (y_assign rfl rfl) ?_
            refine S_ 12 rfl rfl rfl _ (y_assign rfl rfl) ?_
            refine S_go (fun _ _ h => h) ?_
            refine T_seq ?_
            refine T_region ?_
            refine S_ 115 rfl rfl rfl _ (y_move rfl rfl) ?_
            refine S_ 116 rfl rfl rfl _ (y_indexOwnI (j := 2) 902 rfl rfl rfl (fun _ => rfl) rfl Tryz.underlying57 sz9 (fun _ => by simp)) ?_
            refine S_ 117 rfl rfl rfl _ (y_loadO1 902 (val := (fun l : List UInt8 => str l)) rfl rfl rfl rfl (fun _ => rfl) Tryz.underlying9 rfl) ?_
            refine S_ 118 rfl rfl rfl _ (y_call rfl rfl rfl cf268 (fun _ w _ => readFile_any c (by omega) w)) ?_
            refine S_ 114 rfl rfl rfl _ (y_move rfl rfl) ?_
            refine S_ 119 rfl rfl rfl _ (y_extract rfl rfl rfl) ?_
            refine S_ 120 rfl rfl rfl _ (y_extract rfl rfl rfl) ?_
            refine S_ 13 rfl rfl rfl _ (y_assign rfl rfl) ?_
            refine S_ 14 rfl rfl rfl _ (y_assign rfl rfl) ?_
            refine S_go (fun _ _ h => h) ?_
            refine T_seq ?_
            refine T_region ?_
            refine S_ 122 rfl rfl rfl _ (y_move rfl rfl) ?_
            refine S_ 123 rfl rfl rfl _ (y_indexOwnI (j := 3) 902 rfl rfl rfl (fun _ => rfl) rfl Tryz.underlying57 sz9 (fun _ => by simp)) ?_
            refine S_ 124 rfl rfl rfl _ (y_loadO1 902 (val := (fun l : List UInt8 => str l)) rfl rfl rfl rfl (fun _ => rfl) Tryz.underlying9 rfl) ?_
            refine S_ 125 rfl rfl rfl _ (y_call rfl rfl rfl cf266 (fun _ w _ => plainNumberS_any d (by omega) w)) ?_
            refine S_ 121 rfl rfl rfl _ (y_move rfl rfl) ?_
            refine S_ 126 rfl rfl rfl _ (y_extract rfl rfl rfl) ?_
            refine S_ 127 rfl rfl rfl _ (y_extract rfl rfl rfl) ?_
            refine S_ 15 rfl rfl rfl _ (y_assign rfl rfl) ?_
            refine S_ 16 rfl rfl rfl _ (y_assign rfl rfl) ?_
            refine S_go (fun _ _ h => h) ?_
            refine T_seq ?_
            refine T_region ?_
            refine S_ 128 rfl rfl rfl _ (y_move rfl rfl) ?_
            refine S_ 129 rfl rfl rfl _ (y_move rfl rfl) ?_
            refine S_ 130 rfl rfl rfl _ (y_nilCheck rfl rfl) ?_
            refine S_ 131 rfl rfl rfl _ (y_fieldAddr rfl rfl fa62_4) ?_
            refine S_ 132 rfl rfl rfl _ (y_load 901 rfl rfl rfl rfl Tryz.underlying59 rfl) ?_
            refine S_ 133 rfl rfl rfl _ (y_move rfl rfl) ?_
            refine S_ 134 rfl rfl rfl _ (y_move rfl rfl) ?_
            refine S_ 135 rfl rfl rfl _ (y_move rfl rfl) ?_
            refine S_ 136 rfl rfl rfl _ (y_build (zv := .agg #[.int .i64 0, .int .i64 0, .int .i64 0]) (pl := [(0, 1), (1, 1), (2, 1)]) (out := [_, _, _]) rfl rfl Tryz.underlying198 z198 (by kernel_rfl) rfl) ?_
            refine S_buildSlice 137 137 rfl rfl rfl rfl rfl Tryz.underlying59 inf198 rfl (by decide) (by decide) rfl rfl (by decide) rfl (_) rfl ?_
            intro b137
            obtain ⟨i138, hi138, hz138, hs138, hy138⟩ := info_parts inf198
            refine S_append 138 910 137 rfl rfl rfl rfl rfl rfl rfl rfl Tryz.underlying59 hi138 hz138 hs138 hy138 rfl (by decide) (by decide) rfl ?_ ?_ ((o.rl ++ [(⟨nJ b, rfJ c, nJ d⟩ : SRow)]).length) ((o.rl ++ [(⟨nJ b, rfJ c, nJ d⟩ : SRow)]).flatMap SRow.enc) ?_ ?_ ?_
            · (simp only [maxLen]; omega)
            · omega
            · simp
            · simp [List.flatMap_append, SRow.enc]; rfl
            intro A138 c138
            refine S_ 139 rfl rfl rfl _ (y_nilCheck rfl rfl) ?_
            refine S_ 140 rfl rfl rfl _ (y_fieldAddr rfl rfl fa62_4) ?_
            refine S_store 901 rfl rfl rfl rfl rfl rfl sz59 rfl rfl ?_
            refine S_go (fun _ _ h => h) ?_
            refine T_seq ?_
            refine T_region ?_
            refine S_ 141 rfl rfl rfl _ (y_move rfl rfl) ?_
            refine S_ 142 rfl rfl rfl _ (y_move rfl rfl) ?_
            refine Sg_ 143 rfl rfl rfl rfl rfl rfl _ (y_move rfl rfl) ?_
            refine S_ 144 rfl rfl rfl _ (y_and rfl rfl rfl) ?_
            refine S_ 145 rfl rfl rfl _ (y_move rfl rfl) ?_
            refine Sg_ 146 rfl rfl rfl rfl rfl rfl _ (y_move rfl rfl) ?_
            refine S_ 147 rfl rfl rfl _ (y_and rfl rfl rfl) ?_
            refine S_ 6 rfl rfl rfl _ (y_assign rfl rfl) ?_
            refine S_go (fun _ _ h => h) ?_
            refine T_ret (fun a w hF hM => hRb a w (post1 rfl rfl (fun w hM => ?_) a w hF hM))
            obtain ⟨r1, r2⟩ := take_ret (line3 x0 b c d o.tab.pl)
            rw [r1]
            exact ⟨{ o with rA := A138, rc := c138, rl := o.rl ++ [(⟨nJ b, rfJ c, nJ d⟩ : SRow)] }, rfl, ⟨r2, f1, ⟨by show o.fl.length ≤ _; omega, f2.2⟩, ⟨by show o.ul.length ≤ _; omega, f3.2⟩, by show (o.rl ++ [(⟨nJ b, rfJ c, nJ d⟩ : SRow)]).length ≤ _; rw [List.length_append]; show o.rl.length + 1 ≤ n + 1; omega, ⟨by show o.cl.length ≤ _; omega, f5.2⟩⟩, hM.keep (ks := [(0, 999)]) (by repeat (first | exact kl_rest (by assumption) rfl | (apply kl_in; focus rfl))) _ ⟨rfl, rfl, rfl, rfl, rfl, rfl, trivial⟩⟩
          · skip
            have hk3 : ¬ k = 3 := by simpa using h105
            have hk4 : k = 4 := by omega
            subst hk4
            obtain ⟨x0, b, c, d, e, f, rfl⟩ := len_6 hl
            have hf := hs f (by simp)
            refine T_cap 902 rfl fun hcap => ?_
            refine T_skip_go (fun _ _ h => h) ?_
            refine T_seq ?_
            refine T_region ?_
            refine S_ 149 rfl rfl rfl _ (y_move rfl rfl) ?_
            refine S_ 150 rfl rfl rfl _ (y_slice (lo := 1) (hi := 5) rfl rfl Tryz.underlying57 sz9 (.inr ⟨_, _, rfl, rfl⟩) (.inr ⟨_, _, rfl, rfl⟩) (by omega) (by simp) hcap) ?_
            refine S_callOwn 151 151 rfl rfl rfl rfl rfl rfl rfl cf267 (fun A0 c0 => .tuple #[.slice A0 (numsP [b, c, d, e]).length c0, .bool (numsOk [b, c, d, e])]) 3 1 ((numsP [b, c, d, e]).length) ((numsP [b, c, d, e]).flatMap intE9) (fun w hM => readNums_any _ _ _ [b, c, d, e] w ((owned_T (enc := strEnc) hM rfl (i := 902) rfl).cut (lo := 1) (hi := 5) (fun _ => rfl) (by omega) (by simp) hcap) (by omega) (fun x hx => by have := hs x (List.mem_of_mem_drop (i := 1) (List.mem_of_mem_take (i := 4) hx)); omega)) ?_
            intro A151 c151
            refine S_ 148 rfl rfl rfl _ (y_move rfl rfl) ?_
            refine S_ 152 rfl rfl rfl _ (y_extract rfl rfl rfl) ?_
            refine S_ 153 rfl rfl rfl _ (y_extract rfl rfl rfl) ?_
            refine S_ 17 rfl rfl rfl _ (y_assign rfl rfl) ?_
            refine S_ 18 rfl rfl rfl _ (y_assign rfl rfl) ?_
            refine S_go (fun _ _ h => h) ?_
            refine T_seq ?_
            refine T_seq ?_
            refine T_region ?_
            refine S_ 154 rfl rfl rfl _ (y_move rfl rfl) ?_
            refine S_go (fun _ _ h => h) ?_
            refine T_cond rfl (fun h154 => ?_) (fun h154 => ?_)
            · skip
              have e1 : numsOk [b, c, d, e] = true := h154
              have e2 := nums4 e1
              refine T_perm [0, 1, 2, 3, 4, 5, 6, 7, 8, 9, 10, 11, 12, 13, 14, 15, 16, 17, 18, 19, 20, 21, 22, 23, 24, 25] [true, true, true, true, true, true, true, true, true, true, true, true, true, true, true, true, true, true, true, true, true, false, false, true, true, false] [0, 0, 2, 6, 14, 0, 32, 96, 0, 256, 768, 0, 2048, 6144, 0, 16384, 49152, 0, 131072, 393216, 1048544, 2097120, 4194302, 8388607, 16777215, 33554431] [(4, [901]), (6, [902]), (7, [902]), (9, [151]), (10, [151]), (12, [151]), (13, [151]), (15, [151]), (16, [151]), (18, [151]), (19, [151])] (by kernel_rfl) (by kernel_rfl) (by kernel_rfl) rfl (by kernel_rfl) ?_
              refine Rf_ 0 155 rfl rfl rfl rfl rfl _ trivial (Y.z (y_move rfl rfl) rfl) ?_
              refine Rf_ 1 156 rfl rfl rfl rfl rfl _ trivial (Y.z (y_move rfl rfl) rfl) ?_
              refine Rf_ 2 157 rfl rfl rfl rfl rfl _ trivial (Z.of (z_nilCheck rfl rfl)) ?_
              refine Rf_ 3 158 rfl rfl rfl rfl rfl _ trivial (Y.z (y_fieldAddr rfl rfl fa62_5) rfl) ?_
              refine Rf_ 4 159 rfl rfl rfl rfl rfl _ ⟨rfl, trivial⟩ (Y.z (y_load 901 rfl rfl rfl rfl Tryz.underlying60 rfl) rfl) ?_
              refine Rf_ 5 160 rfl rfl rfl rfl rfl _ trivial (Y.z (y_move rfl rfl) rfl) ?_
              refine Rf_ 6 161 rfl rfl rfl rfl rfl _ ⟨rfl, trivial⟩ (Y.z (y_indexOwnI (j := 5) 902 rfl rfl rfl (fun _ => rfl) rfl Tryz.underlying57 sz9 (fun _ => by simp)) rfl) ?_
              refine Rf_ 7 162 rfl rfl rfl rfl rfl _ ⟨rfl, trivial⟩ (Y.z (y_loadO1 902 (val := (fun l : List UInt8 => str l)) rfl rfl rfl rfl (fun _ => rfl) Tryz.underlying9 rfl) rfl) ?_
              refine Rf_ 8 163 rfl rfl rfl rfl rfl _ trivial (Y.z (y_move rfl rfl) rfl) ?_
              refine Rf_ 9 164 rfl rfl rfl rfl rfl _ ⟨rfl, trivial⟩ (Y.z (y_indexOwnI (j := 0) 151 rfl rfl rfl (fun _ => rfl) rfl Tryz.underlying212 sz3 (fun _ => by rw [e2]; simp)) rfl) ?_
              refine Rf_ 10 165 rfl rfl rfl rfl rfl _ ⟨rfl, trivial⟩ (Y.z (y_loadO1 151 (val := (fun n : Int => Value.int .i64 n)) rfl rfl rfl rfl (fun _ => by rw [e2]; rfl) Tryz.underlying3 rfl) rfl) ?_
              refine Rf_ 11 166 rfl rfl rfl rfl rfl _ trivial (Y.z (y_move rfl rfl) rfl) ?_
              refine Rf_ 12 167 rfl rfl rfl rfl rfl _ ⟨rfl, trivial⟩ (Y.z (y_indexOwnI (j := 1) 151 rfl rfl rfl (fun _ => rfl) rfl Tryz.underlying212 sz3 (fun _ => by rw [e2]; simp)) rfl) ?_
              refine Rf_ 13 168 rfl rfl rfl rfl rfl _ ⟨rfl, trivial⟩ (Y.z (y_loadO1 151 (val := (fun n : Int => Value.int .i64 n)) rfl rfl rfl rfl (fun _ => by rw [e2]; rfl) Tryz.underlying3 rfl) rfl) ?_
              refine Rf_ 14 169 rfl rfl rfl rfl rfl _ trivial (Y.z (y_move rfl rfl) rfl) ?_
              refine Rf_ 15 170 rfl rfl rfl rfl rfl _ ⟨rfl, trivial⟩ (Y.z (y_indexOwnI (j := 2) 151 rfl rfl rfl (fun _ => rfl) rfl Tryz.underlying212 sz3 (fun _ => by rw [e2]; simp)) rfl) ?_
              refine Rf_ 16 171 rfl rfl rfl rfl rfl _ ⟨rfl, trivial⟩ (Y.z (y_loadO1 151 (val := (fun n : Int => Value.int .i64 n)) rfl rfl rfl rfl (fun _ => by rw [e2]; rfl) Tryz.underlying3 rfl) rfl) ?_
              refine Rf_ 17 172 rfl rfl rfl rfl rfl _ trivial (Y.z (y_move rfl rfl) rfl) ?_
              refine Rf_ 18 173 rfl rfl rfl rfl rfl _ ⟨rfl, trivial⟩ (Y.z (y_indexOwnI (j := 3) 151 rfl rfl rfl (fun _ => rfl) rfl Tryz.underlying212 sz3 (fun _ => by rw [e2]; simp)) rfl) ?_
              refine Rf_ 19 174 rfl rfl rfl rfl rfl _ ⟨rfl, trivial⟩ (Y.z (y_loadO1 151 (val := (fun n : Int => Value.int .i64 n)) rfl rfl rfl rfl (fun _ => by rw [e2]; rfl) Tryz.underlying3 rfl) rfl) ?_
              refine Rf_ 20 175 rfl rfl rfl rfl rfl _ trivial (Y.z (y_build (zv := .agg #[.string ⟨#[]⟩, .int .i64 0, .int .i64 0, .int .i64 0, .int .i64 0]) (pl := [(0, 1), (1, 1), (2, 1), (3, 1), (4, 1)]) (out := [_, _, _, _, _]) rfl rfl Tryz.underlying200 z200 (by kernel_rfl) rfl) rfl) ?_
              refine R_chain 21 rfl rfl ?_
              refine S_buildSlice 176 176 rfl rfl rfl rfl rfl Tryz.underlying60 inf200 rfl (by decide) (by decide) rfl rfl (by decide) rfl (_) rfl ?_
              intro b176
              refine R_next ⟨.inr ⟨rfl, trivial⟩, .inl rfl, .inl rfl, .inl rfl, .inl rfl, .inl rfl, .inl rfl, .inl rfl, .inl rfl, .inl rfl, .inl rfl, trivial⟩ ?_
              refine R_chain 22 rfl rfl ?_
              obtain ⟨i177, hi177, hz177, hs177, hy177⟩ := info_parts inf200
              refine S_append 177 911 176 rfl rfl rfl rfl rfl rfl rfl rfl Tryz.underlying60 hi177 hz177 hs177 hy177 rfl (by decide) (by decide) rfl ?_ ?_ ((o.cl ++ [(⟨f, nJ b, nJ c, nJ d, nJ e⟩ : SCall)]).length) ((o.cl ++ [(⟨f, nJ b, nJ c, nJ d, nJ e⟩ : SCall)]).flatMap SCall.enc) ?_ ?_ ?_
              · (simp only [maxLen]; omega)
              · omega
              · simp
              · simp [List.flatMap_append, SCall.enc]; rfl
              intro A177 c177
              refine R_next ⟨.inl rfl, .inl rfl, .inl rfl, .inl rfl, .inl rfl, .inl rfl, .inl rfl, .inl rfl, .inl rfl, .inl rfl, .inl rfl, trivial⟩ ?_
              refine Rf_ 23 178 rfl rfl rfl rfl rfl _ trivial (Z.of (z_nilCheck rfl rfl)) ?_
              refine Rf_ 24 179 rfl rfl rfl rfl rfl _ trivial (Y.z (y_fieldAddr rfl rfl fa62_5) rfl) ?_
              refine R_chain 25 rfl rfl ?_
              refine S_store 901 rfl rfl rfl rfl rfl rfl sz60 rfl rfl ?_
              refine R_next ⟨.inl rfl, .inl rfl, .inl rfl, .inl rfl, .inl rfl, .inl rfl, .inl rfl, .inl rfl, .inl rfl, .inl rfl, .inl rfl, trivial⟩ ?_
              refine R_go (fun _ _ h => h) ?_
              refine T_seq ?_
              refine T_region ?_
              refine S_ 180 rfl rfl rfl _ (y_move rfl rfl) ?_
              refine S_ 181 rfl rfl rfl _ (y_move rfl rfl) ?_
              refine Sg_ 182 rfl rfl rfl rfl rfl rfl _ (y_move rfl rfl) ?_
              refine Sg_ 183 rfl rfl rfl rfl rfl rfl _ (y_indexOwnI (j := 5) 902 rfl rfl rfl (fun _ => rfl) rfl Tryz.underlying57 sz9 (fun _ => by simp)) ?_
              refine Sg_ 184 rfl rfl rfl rfl rfl rfl _ (y_loadO1 902 (val := (fun l : List UInt8 => str l)) rfl rfl rfl rfl (fun _ => rfl) Tryz.underlying9 rfl) ?_
              refine Sg_ 185 rfl rfl rfl rfl rfl rfl _ (y_bin rfl rfl rfl (fun _ => b_neqs)) ?_
              refine S_ 186 rfl rfl rfl _ (y_and rfl rfl rfl) ?_
              refine S_ 6 rfl rfl rfl _ (y_assign rfl rfl) ?_
              refine S_go (fun _ _ h => h) ?_
              refine T_ret (fun a w hF hM => hRb a w (post1 rfl rfl (fun w hM => ?_) a w hF hM))
              obtain ⟨r1, r2⟩ := take_ret (line4 x0 b c d e f o.tab.pl)
              rw [r1]
              exact ⟨{ o with cA := A177, cc := c177, cl := o.cl ++ [(⟨f, nJ b, nJ c, nJ d, nJ e⟩ : SCall)] }, rfl, ⟨r2, f1, ⟨by show o.fl.length ≤ _; omega, f2.2⟩, ⟨by show o.ul.length ≤ _; omega, f3.2⟩, by show o.rl.length ≤ _; omega, ⟨by show (o.cl ++ [(⟨f, nJ b, nJ c, nJ d, nJ e⟩ : SCall)]).length ≤ _; rw [List.length_append]; show o.cl.length + 1 ≤ n + 1; omega, all_snoc rfl f5.2 hf⟩⟩, hM.keep (ks := [(0, 999)]) (by repeat (first | exact kl_rest (by assumption) rfl | (apply kl_in; focus rfl))) _ ⟨rfl, rfl, rfl, rfl, rfl, rfl, trivial⟩⟩
            · skip
              have e1 : numsOk [b, c, d, e] = false := h154
              refine T_skip_go (fun _ _ h => h) ?_
              refine T_seq ?_
              refine T_region ?_
              refine S_ 180 rfl rfl rfl _ (y_move rfl rfl) ?_
              refine S_ 181 rfl rfl rfl _ (y_move rfl rfl) ?_
              refine Sg_ 182 rfl rfl rfl rfl rfl rfl _ (y_move rfl rfl) ?_
              refine Sg_ 183 rfl rfl rfl rfl rfl rfl _ (y_indexOwnI (j := 5) 902 rfl rfl rfl (fun _ => rfl) rfl Tryz.underlying57 sz9 (fun _ => by simp)) ?_
              refine Sg_ 184 rfl rfl rfl rfl rfl rfl _ (y_loadO1 902 (val := (fun l : List UInt8 => str l)) rfl rfl rfl rfl (fun _ => rfl) Tryz.underlying9 rfl) ?_
              refine Sg_ 185 rfl rfl rfl rfl rfl rfl _ (y_bin rfl rfl rfl (fun _ => b_neqs)) ?_
              refine S_ 186 rfl rfl rfl _ (y_and rfl rfl rfl) ?_
              refine S_ 6 rfl rfl rfl _ (y_assign rfl rfl) ?_
              refine S_go (fun _ _ h => h) ?_
              refine T_ret (fun a w hF hM => hRb a w (post1 rfl rfl (fun w hM => ?_) a w hF hM))
              obtain ⟨r1, r2⟩ := take_ret (line4 x0 b c d e f o.tab.pl)
              have r3 := take_no (line4 x0 b c d e f o.tab.pl) e1
              rw [r1]
              exact ⟨o, rfl, ⟨fun p h => absurd (r3.symm.trans h) (by simp), f1, ⟨by show o.fl.length ≤ _; omega, f2.2⟩, ⟨by show o.ul.length ≤ _; omega, f3.2⟩, by show o.rl.length ≤ _; omega, ⟨by show o.cl.length ≤ _; omega, f5.2⟩⟩, hM.keep (ks := [(0, 999)]) (by repeat (first | exact kl_rest (by assumption) rfl | (apply kl_in; focus rfl))) _ ⟨rfl, rfl, rfl, rfl, rfl, rfl, trivial⟩⟩
end Go.Proofs.YtkkngcdikbhkjaaGreatDoor
end
