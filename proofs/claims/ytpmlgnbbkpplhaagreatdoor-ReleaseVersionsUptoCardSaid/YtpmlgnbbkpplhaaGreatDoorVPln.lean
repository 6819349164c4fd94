/- Versions in plain lists: what parse makes of a text, and that the reference makes the same. No program in sight. -/
import Derived.Test.YtpmlgnbbkpplhaaGreatDoorSNum
import Derived.Lib.Join
namespace Go.Proofs.YtpmlgnbbkpplhaaGreatDoor
set_option linter.unusedSimpArgs false
set_option linter.unusedVariables false
set_option maxRecDepth 20000
open Go.RowKit Go.Eng
/-! ### Trimmed to nothing -/
theorem dropWhile_all {p : UInt8 → Bool} : ∀ {l : List UInt8}, (∀ c ∈ l, p c = true) → l.dropWhile p = []
  | [], _ => rfl
  | a :: r, h => by rw [List.dropWhile_cons, if_pos (h a (List.mem_cons_self ..)), dropWhile_all fun c hc => h c (List.mem_cons_of_mem _ hc)]
theorem trimS_all {s cs : List UInt8} (h : ∀ c ∈ s, cs.contains c = true) : Lib.trimS s cs = [] := by
  have h2 : s.reverse.dropWhile (cs.contains ·) = [] := dropWhile_all fun c hc => h c (List.mem_reverse.1 hc)
  have h3 : Lib.trimRightS s cs = [] := by unfold Lib.trimRightS; rw [h2]; rfl
  unfold Lib.trimS; rw [h3]; rfl
abbrev letB : List UInt8 := [97, 98, 99, 100, 101, 102, 103, 104, 105, 106, 107, 108, 109, 110, 111, 112, 113, 114, 115, 116, 117, 118, 119, 120, 121, 122, 48, 49, 50, 51, 52, 53, 54, 55, 56, 57]
theorem sub_let {c : UInt8} (h : digB.contains c = true) : letB.contains c = true := by
  have h : c ∈ digB := by simpa using h
  simp only [digB, List.mem_cons, List.not_mem_nil, or_false] at h
  rcases h with rfl | rfl | rfl | rfl | rfl | rfl | rfl | rfl | rfl | rfl <;> decide
theorem let_name {c : UInt8} (h : letB.contains c = true) : nameBs.contains c = true := by
  have h : c ∈ letB := by simpa using h
  have : c ∈ nameBs := by
    have e : nameBs = letB ++ [45, 46, 95] := rfl
    rw [e]; exact List.mem_append_left _ h
  simpa using this
theorem let_not {c : UInt8} (h : letB.contains c = true) : c ≠ 45 ∧ c ≠ 46 := by
  constructor <;> (rintro rfl; exact absurd h (by decide))
theorem allOf_iff {s cs : List UInt8} : allOf s cs = true ↔ s ≠ [] ∧ ∀ c ∈ s, cs.contains c = true := by
  simp only [allOf, Bool.and_eq_true, Bool.not_eq_true', decide_eq_false_iff_not, decide_eq_true_eq]
  exact ⟨fun h => ⟨h.1, trimS_nil h.2⟩, fun h => ⟨h.1, trimS_all h.2⟩⟩
/-! ### Parts -/
def isPreB (s : List UInt8) : Bool := if allOf s digB = true then numOk s else allOf s letB
def partB (s : List UInt8) : Bool := if (decide (s = []) || !decide (Lib.trimS s letB = [])) = true then false else plainOk s 6 || !decide (Lib.trimS s digB = [])
theorem numOk_plain (s : List UInt8) : numOk s = plainOk s 6 := by
  unfold numOk allOf plainOk
  rw [show ((6 : Nat) : Int) = 6 from rfl]
  generalize decide (s = []) = a
  generalize decide ((6 : Int) < (s.length : Int)) = b
  generalize (decide ((1 : Int) < (s.length : Int)) && decide (((s.getD 0 0).toNat : Int) = 48)) = c
  generalize decide (Lib.trimS s digB = []) = d
  cases a <;> cases b <;> cases c <;> cases d <;> rfl
theorem preB_eq (s : List UInt8) : isPreB s = partB s := by
  unfold isPreB partB
  by_cases h0 : s = []
  · subst h0; rfl
  · by_cases h1 : Lib.trimS s digB = []
    · have h2 : Lib.trimS s letB = [] := trimS_all fun c hc => sub_let (trimS_nil h1 c hc)
      rw [if_pos (by simp [allOf, h0, h1]), numOk_plain]; simp [h0, h1, h2]
    · rw [if_neg (by simp [allOf, h1])]
      by_cases h2 : Lib.trimS s letB = [] <;> simp [allOf, h0, h1, h2]
theorem preB_let {s : List UInt8} (h : isPreB s = true) : s ≠ [] ∧ ∀ c ∈ s, letB.contains c = true := by
  unfold isPreB at h
  split at h
  · rename_i h1
    have := allOf_iff.1 h1
    exact ⟨this.1, fun c hc => sub_let (this.2 c hc)⟩
  · exact allOf_iff.1 h
theorem numOk_dig {s : List UInt8} (h : numOk s = true) : s ≠ [] ∧ ∀ c ∈ s, digB.contains c = true := by
  simp only [numOk, Bool.and_eq_true] at h
  exact allOf_iff.1 h.1.1
/-! ### Joined and split at one byte -/
def jn (c : UInt8) : List (List UInt8) → List UInt8
  | [] => []
  | [a] => a
  | a :: b :: r => a ++ c :: jn c (b :: r)
theorem jn_join (c : UInt8) : ∀ l : List (List UInt8), Lib.join l [c] = jn c l
  | [] => rfl
  | [a] => Lib.join_one a [c]
  | a :: b :: r => by
    have h := jn_join c (b :: r)
    rw [Lib.join_cons] at h
    rw [Lib.join_cons, jn, ← h]
    simp [Lib.joinTail]
theorem split_ne (c : UInt8) (s : List UInt8) : splitC c s ≠ [] := by
  intro h
  have := splitC_len c s
  rw [h] at this; simp at this
theorem jn_cons (c : UInt8) (a : List UInt8) {l : List (List UInt8)} (h : l ≠ []) : jn c (a :: l) = a ++ c :: jn c l := by
  cases l with
  | nil => exact absurd rfl h
  | cons b r => rfl
theorem jn_head (c x : UInt8) (h : List UInt8) (t : List (List UInt8)) : jn c ((x :: h) :: t) = x :: jn c (h :: t) := by
  cases t <;> rfl
theorem jn_split (c : UInt8) : ∀ s : List UInt8, jn c (splitC c s) = s
  | [] => rfl
  | x :: r => by
    have ih := jn_split c r
    rw [splitC]
    split
    · rename_i h; subst h
      rw [jn_cons _ _ (split_ne _ r), ih]; rfl
    · cases hs : splitC c r with
      | nil => exact absurd hs (split_ne _ r)
      | cons h t =>
        rw [hs] at ih
        show jn c ((x :: h) :: t) = x :: r
        rw [jn_head, ih]
theorem mem_jn {c x : UInt8} : ∀ {l : List (List UInt8)}, x ∈ jn c l → x = c ∨ ∃ w ∈ l, x ∈ w
  | [], h => by cases h
  | [a], h => .inr ⟨a, List.mem_cons_self .., h⟩
  | a :: b :: r, h => by
    rw [jn] at h
    rcases List.mem_append.1 h with h | h
    · exact .inr ⟨a, List.mem_cons_self .., h⟩
    · rcases List.mem_cons.1 h with h | h
      · exact .inl h
      · rcases mem_jn h with h | ⟨w, hw, h⟩
        · exact .inl h
        · exact .inr ⟨w, List.mem_cons_of_mem _ hw, h⟩
theorem split_app (c : UInt8) (X : List UInt8) : ∀ a : List UInt8, c ∉ a → splitC c (a ++ c :: X) = a :: splitC c X
  | [], _ => by rw [List.nil_append, splitC, if_pos rfl]
  | y :: r, h => by
    rw [List.cons_append, splitC, if_neg (fun e : y = c => h (by rw [e]; exact List.mem_cons_self ..)), split_app c X r fun hc => h (List.mem_cons_of_mem _ hc)]
theorem split_one (c : UInt8) (a : List UInt8) (h : c ∉ a) : splitC c a = [a] := splitC_none c a fun _ hk => h (List.mem_of_getElem? hk)
theorem split_jn (c : UInt8) : ∀ {l : List (List UInt8)}, l ≠ [] → (∀ w ∈ l, c ∉ w) → splitC c (jn c l) = l
  | [], h, _ => absurd rfl h
  | [a], _, h => split_one c a (h a (List.mem_cons_self ..))
  | a :: b :: r, _, h => by
    rw [jn, split_app c _ a (h a (List.mem_cons_self ..)), split_jn c (by simp) fun w hw => h w (List.mem_cons_of_mem _ hw)]
theorem spl_le (c : UInt8) : ∀ (s x : List UInt8), x ∈ splitC c s → x.length ≤ s.length
  | [], x, h => by rw [splitC] at h; simp at h; subst h; exact Nat.le_refl _
  | y :: r, x, h => by
    rw [splitC] at h
    split at h
    · rcases List.mem_cons.1 h with rfl | h
      · exact Nat.zero_le _
      · exact Nat.le_succ_of_le (spl_le c r x h)
    · cases hs : splitC c r with
      | nil => rw [hs] at h; simp at h; subst h; simp
      | cons a t =>
        rw [hs] at h
        rcases List.mem_cons.1 h with rfl | h
        · have := spl_le c r a (by rw [hs]; exact List.mem_cons_self ..)
          simpa using this
        · exact Nat.le_succ_of_le (spl_le c r x (by rw [hs]; exact List.mem_cons_of_mem _ h))
theorem cut_le (c : UInt8) (s : List UInt8) : (cutC c s).1.length ≤ s.length ∧ (cutC c s).2.1.length ≤ s.length := by
  unfold cutC
  split
  · exact ⟨Nat.le_refl _, Nat.zero_le _⟩
  · simp only [List.length_take, List.length_drop]; omega
/-! ### Cut, the last place of a byte -/
theorem cut_t {c : UInt8} {s : List UInt8} (h : (cutC c s).2.2 = true) : s = (cutC c s).1 ++ c :: (cutC c s).2.1 := by
  unfold cutC at h ⊢
  split at h
  · cases h
  · rename_i hn
    rw [if_neg hn]
    obtain ⟨o, ho⟩ : ∃ o : Nat, Lib.indexByte s c = o := ⟨(Lib.indexByte s c).toNat, by omega⟩
    obtain ⟨h1, _⟩ := Lib.indexByte_some ho
    obtain ⟨h2, h3⟩ := List.getElem?_eq_some_iff.1 h1
    rw [ho, Int.toNat_natCast]
    rw [← h3, ← List.drop_eq_getElem_cons h2, List.take_append_drop]
theorem cut_f {c : UInt8} {s : List UInt8} (h : (cutC c s).2.2 = false) : (cutC c s).1 = s ∧ (cutC c s).2.1 = [] := by
  unfold cutC at h ⊢
  split at h
  · rename_i hn; rw [if_pos hn]; exact ⟨rfl, rfl⟩
  · cases h
theorem index_app {c : UInt8} {a X : List UInt8} (h : c ∉ a) : Lib.indexByte (a ++ c :: X) c = a.length := by
  have h1 : Lib.indexByte (a ++ c :: X) c ≠ -1 := fun e => Lib.indexByte_none e a.length (by simp)
  have h0 := Lib.indexByte_ge (a ++ c :: X) c
  obtain ⟨o, ho⟩ : ∃ o : Nat, Lib.indexByte (a ++ c :: X) c = o := ⟨(Lib.indexByte (a ++ c :: X) c).toNat, by omega⟩
  obtain ⟨h2, h3⟩ := Lib.indexByte_some ho
  rw [ho]
  rcases Nat.lt_trichotomy o a.length with hl | hl | hl
  · exfalso
    rw [List.getElem?_append_left hl] at h2
    exact h (List.mem_of_getElem? h2)
  · rw [hl]
  · exact absurd (by simp) (h3 a.length hl)
theorem index_not {c : UInt8} {a : List UInt8} (h : c ∉ a) : Lib.indexByte a c = -1 := by
  have h0 := Lib.indexByte_ge a c
  rcases Int.lt_or_le (Lib.indexByte a c) 0 with hl | hl
  · omega
  · obtain ⟨o, ho⟩ : ∃ o : Nat, Lib.indexByte a c = o := ⟨(Lib.indexByte a c).toNat, by omega⟩
    exact absurd (List.mem_of_getElem? (Lib.indexByte_some ho).1) h
theorem cut_app {c : UInt8} {a X : List UInt8} (h : c ∉ a) : cutC c (a ++ c :: X) = (a, X, true) := by
  unfold cutC
  rw [index_app h, if_neg (by omega), Int.toNat_natCast]
  simp
theorem cut_not {c : UInt8} {a : List UInt8} (h : c ∉ a) : cutC c a = (a, [], false) := by
  unfold cutC
  rw [index_not h, if_pos (by omega)]
theorem last_spec (s : List UInt8) (c : UInt8) : ∀ t : Nat, (lastB s c t = -1 ∧ ∀ j : Nat, j < t → s.getD j 0 ≠ c) ∨ ∃ k : Nat, lastB s c t = k ∧ k < t ∧ s.getD k 0 = c ∧ ∀ j : Nat, k < j → j < t → s.getD j 0 ≠ c
  | 0 => .inl ⟨rfl, fun j h => absurd h (Nat.not_lt_zero _)⟩
  | t + 1 => by
    rw [lastB]
    split
    · rename_i h
      exact .inr ⟨t, rfl, by omega, h, fun j h1 h2 => by omega⟩
    · rename_i h
      rcases last_spec s c t with ⟨h1, h2⟩ | ⟨k, h1, h2, h3, h4⟩
      · refine .inl ⟨h1, fun j hj => ?_⟩
        rcases Nat.lt_or_ge j t with hl | hl
        · exact h2 j hl
        · rw [show j = t by omega]; exact h
      · refine .inr ⟨k, h1, by omega, h3, fun j hj1 hj2 => ?_⟩
        rcases Nat.lt_or_ge j t with hl | hl
        · exact h4 j hj1 hl
        · rw [show j = t by omega]; exact h
theorem last_app {c : UInt8} {a b : List UInt8} (h : c ∉ b) : lastB (a ++ c :: b) c (a ++ c :: b).length = a.length := by
  have hget : ∀ j : Nat, a.length < j → j < (a ++ c :: b).length → (a ++ c :: b).getD j 0 ≠ c := by
    intro j h1 h2 e
    rw [List.getD_eq_getElem?_getD, List.getElem?_append_right (by omega), show j - a.length = (j - a.length - 1) + 1 by omega, List.getElem?_cons_succ] at e
    have h3 : j - a.length - 1 < b.length := by simp only [List.length_append, List.length_cons] at h2; omega
    rw [List.getElem?_eq_getElem h3] at e
    exact h (e ▸ List.getElem_mem h3)
  have hat : (a ++ c :: b).getD a.length 0 = c := by simp
  rcases last_spec (a ++ c :: b) c (a ++ c :: b).length with ⟨_, h2⟩ | ⟨k, h1, h2, h3, h4⟩
  · exact absurd hat (h2 a.length (by simp))
  · rw [h1]
    rcases Nat.lt_trichotomy k a.length with hl | hl | hl
    · exact absurd hat (h4 a.length hl (by simp))
    · rw [hl]
    · exact absurd h3 (hget k hl h2)
/-! ### Parsed -/
structure PVer where
  p : List UInt8
  a : Int
  b : Int
  c : Int
  pre : List (List UInt8)
def pver0 : PVer := ⟨[], 0, 0, 0, []⟩
def ptN (s : List UInt8) : Nat := (Lib.indexByte s 46).toNat
def lnI (s : List UInt8) : Int := lastB (s.take (ptN s)) 45 (s.take (ptN s)).length
def prS (s : List UInt8) : List UInt8 := s.take (lnI s).toNat
def rsS (s : List UInt8) : List UInt8 := s.drop ((lnI s).toNat + 1)
def wdS (s : List UInt8) : List (List UInt8) := splitC 46 (cutC 45 (rsS s)).1
def preS (s : List UInt8) : List (List UInt8) := if (cutC 45 (rsS s)).2.2 = true then splitC 46 (cutC 45 (rsS s)).2.1 else []
def numI (s : List UInt8) : Int := if numOk s = true then ((valD s : Nat) : Int) else 0
def verV (s : List UInt8) : PVer := ⟨prS s, numI ((wdS s).getD 0 []), numI ((wdS s).getD 1 []), numI ((wdS s).getD 2 []), preS s⟩
def badPre (l : List (List UInt8)) : Bool := l.any fun p => !isPreB p
def parseOk (s : List UInt8) : Bool := numOk ((wdS s).getD 0 []) && numOk ((wdS s).getD 1 []) && numOk ((wdS s).getD 2 []) && !badPre (preS s) && decide (((preS s).length : Int) ≤ 5)
def parseR (s : List UInt8) : PVer × Bool :=
  if (decide (Lib.indexByte s 46 < 0) || decide ((40 : Int) < s.length)) = true then (pver0, false)
  else if (decide (lnI s < 0) || !projOk (prS s)) = true then (pver0, false)
  else if ((wdS s).length : Int) ≠ 3 then (pver0, false) else (verV s, parseOk s)
abbrev relOk (s : List UInt8) : Bool := (parseR s).2
theorem parse_iff (s : List UInt8) : relOk s = true ↔ 0 ≤ lnI s ∧ s.length ≤ 40 ∧ projOk (prS s) = true ∧ (wdS s).length = 3 ∧ parseOk s = true := by
  have hneg : Lib.indexByte s 46 < 0 → lnI s = -1 := fun h => by
    have h0 : ptN s = 0 := by unfold ptN; omega
    unfold lnI; rw [h0]; rfl
  unfold relOk parseR
  split
  · rename_i h
    simp only [Bool.or_eq_true, decide_eq_true_eq] at h
    refine ⟨(fun h => by cases h), fun h1 => ?_⟩
    rcases h with h | h
    · have := hneg h; omega
    · omega
  · rename_i h
    simp only [Bool.or_eq_true, decide_eq_true_eq, not_or] at h
    split
    · rename_i h2
      simp only [Bool.or_eq_true, decide_eq_true_eq, Bool.not_eq_true'] at h2
      refine ⟨(fun h => by cases h), fun h1 => ?_⟩
      rcases h2 with h2 | h2
      · omega
      · rw [h2] at h1; cases h1.2.2.1
    · rename_i h2
      simp only [Bool.or_eq_true, decide_eq_true_eq, Bool.not_eq_true', not_or, Bool.not_eq_false] at h2
      split
      · refine ⟨(fun h => by cases h), fun h1 => ?_⟩
        rename_i h3; omega
      · rename_i h3
        exact ⟨fun h4 => ⟨by omega, by omega, h2.2, by omega, h4⟩, fun h4 => h4.2.2.2.2⟩
theorem parse_ver {s : List UInt8} (h : relOk s = true) : (parseR s).1 = verV s := by
  unfold relOk parseR at h
  unfold parseR
  split at h
  · cases h
  · rename_i h1
    rw [if_neg h1]
    split at h
    · cases h
    · rename_i h2
      rw [if_neg h2]
      split at h
      · cases h
      · rename_i h3
        rw [if_neg h3]
def wholesOk (l : List (List UInt8)) : Bool := l.all fun w => plainOk w 6
def refR (s : List UInt8) : PVer × Int :=
  if nameOk s = false then (pver0, 8) else if lnI s < 0 then (pver0, 8)
  else if (!wholesOk (wdS s) || !decide (((wdS s).length : Int) = 3) || !projOk (prS s)) = true then (pver0, 8)
  else if (cutC 45 (rsS s)).2.2 = true then (if (decide ((5 : Int) < (preS s).length) || (preS s).any fun p => !partB p) = true then (pver0, 8) else (verV s, 0)) else (verV s, 0)
theorem ln_parts {s : List UInt8} (h : 0 ≤ lnI s) : s = prS s ++ 45 :: rsS s := by
  unfold prS rsS
  rcases last_spec (s.take (ptN s)) 45 (s.take (ptN s)).length with ⟨h1, _⟩ | ⟨k, h1, h2, h3, _⟩
  · have : lnI s = -1 := h1
    omega
  · have h1 : lnI s = k := h1
    rw [h1, Int.toNat_natCast]
    rw [List.length_take] at h2
    have hk : k < s.length := by omega
    have e : s.getD k 0 = 45 := by
      rw [← h3, List.getD_eq_getElem?_getD, List.getD_eq_getElem?_getD, List.getElem?_take, if_pos (by omega)]
    rw [← e, ← drop_str hk, List.take_append_drop]
theorem mem_rest {s : List UInt8} (hw : ∀ w ∈ wdS s, ∀ c ∈ w, letB.contains c = true) (hp : ∀ w ∈ preS s, ∀ c ∈ w, letB.contains c = true) : ∀ c ∈ rsS s, nameBs.contains c = true := by
  have h1 : ∀ c ∈ (cutC 45 (rsS s)).1, nameBs.contains c = true := fun c hc => by
    rw [← jn_split 46 (cutC 45 (rsS s)).1] at hc
    rcases mem_jn hc with rfl | ⟨w, h1, h2⟩
    · decide
    · exact let_name (hw w h1 c h2)
  intro c hc
  cases h : (cutC 45 (rsS s)).2.2 with
  | false => rw [(cut_f h).1] at h1; exact h1 c hc
  | true =>
    rw [cut_t h] at hc
    rcases List.mem_append.1 hc with hc | hc
    · exact h1 c hc
    · rcases List.mem_cons.1 hc with rfl | hc
      · decide
      · rw [← jn_split 46 (cutC 45 (rsS s)).2.1] at hc
        rcases mem_jn hc with rfl | ⟨w, h1, h2⟩
        · decide
        · exact let_name (hp w (by unfold preS; rw [if_pos h]; exact h1) c h2)
theorem name_iff {s : List UInt8} : nameOk s = true ↔ s ≠ [] ∧ s.length ≤ 40 ∧ 97 ≤ (s.getD 0 0).toNat ∧ (s.getD 0 0).toNat ≤ 122 ∧ ∀ c ∈ s, nameBs.contains c = true := by
  simp only [nameOk, Bool.and_eq_true, Bool.not_eq_true', decide_eq_false_iff_not, decide_eq_true_eq]
  constructor
  · rintro ⟨⟨⟨⟨h1, h2⟩, h3⟩, h4⟩, h5⟩
    exact ⟨h1, by omega, by omega, by omega, trimS_nil h5⟩
  · rintro ⟨h1, h2, h3, h4, h5⟩
    exact ⟨⟨⟨⟨h1, by omega⟩, by omega⟩, by omega⟩, trimS_all h5⟩
theorem proj_name {s : List UInt8} (h : projOk s = true) : nameOk s = true := by
  simp only [projOk, Bool.and_eq_true] at h; exact h.1
theorem name_of {s : List UInt8} (h0 : 0 ≤ lnI s) (h1 : s.length ≤ 40) (h2 : projOk (prS s) = true) (hw : ∀ w ∈ wdS s, ∀ c ∈ w, letB.contains c = true) (hp : ∀ w ∈ preS s, ∀ c ∈ w, letB.contains c = true) : nameOk s = true := by
  have e := ln_parts h0
  obtain ⟨n1, n2, n3, n4, n5⟩ := name_iff.1 (proj_name h2)
  have eg : s.getD 0 0 = (prS s).getD 0 0 := by
    generalize prS s = u at e n1 ⊢
    generalize rsS s = v at e
    subst e
    cases u with
    | nil => exact absurd rfl n1
    | cons a r => rfl
  refine name_iff.2 ⟨fun h => ?_, h1, by rw [eg]; exact n3, by rw [eg]; exact n4, fun c hc => ?_⟩
  · rw [h] at e; simp at e
  · rw [e] at hc
    rcases List.mem_append.1 hc with hc | hc
    · exact n5 c hc
    · rcases List.mem_cons.1 hc with rfl | hc
      · decide
      · exact mem_rest hw hp c hc
theorem triple {α : Type} {l : List α} (h : l.length = 3) : ∃ x y z, l = [x, y, z] := by
  match l, h with
  | [x, y, z], _ => exact ⟨x, y, z, rfl⟩
theorem bad_iff {l : List (List UInt8)} : badPre l = false ↔ ∀ p ∈ l, isPreB p = true := by
  unfold badPre
  constructor
  · intro h p hp
    cases hq : isPreB p with
    | true => rfl
    | false =>
      have : (l.any fun p => !isPreB p) = true := List.any_eq_true.2 ⟨p, hp, by rw [hq]; rfl⟩
      rw [this] at h; cases h
  · intro h
    cases hq : (l.any fun p => !isPreB p) with
    | false => rfl
    | true =>
      obtain ⟨p, hp, hb⟩ := List.any_eq_true.1 hq
      rw [h p hp] at hb; cases hb
theorem parse_parts {s : List UInt8} (h3 : (wdS s).length = 3) (h : parseOk s = true) : (∀ w ∈ wdS s, numOk w = true) ∧ (∀ p ∈ preS s, isPreB p = true) ∧ (preS s).length ≤ 5 := by
  obtain ⟨x, y, z, e⟩ := triple h3
  simp only [parseOk, Bool.and_eq_true, Bool.not_eq_true', decide_eq_true_eq, e, List.getD_cons_zero, List.getD_cons_succ] at h
  obtain ⟨⟨⟨⟨h1, h2⟩, h4⟩, h5⟩, h6⟩ := h
  refine ⟨fun w hw => ?_, bad_iff.1 h5, by omega⟩
  rw [e] at hw
  simp only [List.mem_cons, List.not_mem_nil, or_false] at hw
  rcases hw with rfl | rfl | rfl <;> assumption
theorem parts_parse {s : List UInt8} (h3 : (wdS s).length = 3) (hw : ∀ w ∈ wdS s, numOk w = true) (hp : ∀ p ∈ preS s, isPreB p = true) (h5 : (preS s).length ≤ 5) : parseOk s = true := by
  obtain ⟨x, y, z, e⟩ := triple h3
  simp only [parseOk, Bool.and_eq_true, Bool.not_eq_true', decide_eq_true_eq, e, List.getD_cons_zero, List.getD_cons_succ]
  rw [e] at hw
  exact ⟨⟨⟨⟨hw x (by simp), hw y (by simp)⟩, hw z (by simp)⟩, bad_iff.2 hp⟩, by omega⟩
theorem wholes_iff {l : List (List UInt8)} : wholesOk l = true ↔ ∀ w ∈ l, numOk w = true := by
  unfold wholesOk
  rw [List.all_eq_true]
  constructor <;> intro h w hw
  · rw [numOk_plain]; exact h w hw
  · rw [← numOk_plain]; exact h w hw
theorem ref_ok {s : List UInt8} (h : relOk s = true) : refR s = (verV s, 0) := by
  obtain ⟨h0, h1, h2, h3, h4⟩ := (parse_iff s).1 h
  obtain ⟨p1, p2, p3⟩ := parse_parts h3 h4
  have hn := name_of h0 h1 h2 (fun w hw c hc => sub_let ((numOk_dig (p1 w hw)).2 c hc)) fun w hw => (preB_let (p2 w hw)).2
  unfold refR
  rw [if_neg (by simp [hn]), if_neg (by omega), if_neg (by simp [wholes_iff.2 p1, h3, h2])]
  split
  · rw [if_neg]
    simp only [Bool.or_eq_true, decide_eq_true_eq, List.any_eq_true, Bool.not_eq_true', not_or, not_exists, not_and, Bool.not_eq_false]
    exact ⟨by omega, fun p hp => by rw [← preB_eq]; exact p2 p hp⟩
  · rfl
theorem ref_bad {s : List UInt8} (h : relOk s = false) : refR s = (pver0, 8) := by
  have hno : ¬ relOk s = true := by rw [h]; exact Bool.false_ne_true
  rw [parse_iff] at hno
  unfold refR
  split
  · rfl
  · rename_i hn
    have hn : nameOk s = true := by simpa using hn
    have hl := (name_iff.1 hn).2.1
    split
    · rfl
    · rename_i h0
      split
      · rfl
      · rename_i h1
        simp only [Bool.or_eq_true, Bool.not_eq_true', decide_eq_false_iff_not, not_or, Bool.not_eq_false, Classical.not_not] at h1
        obtain ⟨⟨h1, h2⟩, h3⟩ := h1
        have hw := wholes_iff.1 h1
        split
        · split
          · rfl
          · rename_i h4
            exfalso
            simp only [Bool.or_eq_true, decide_eq_true_eq, List.any_eq_true, Bool.not_eq_true', not_or, not_exists, not_and, Bool.not_eq_false] at h4
            exact hno ⟨by omega, hl, h3, by omega, parts_parse (by omega) hw (fun p hp => by rw [preB_eq]; exact h4.2 p hp) (by omega)⟩
        · rename_i h4
          exfalso
          have e : preS s = [] := by unfold preS; rw [if_neg h4]
          exact hno ⟨by omega, hl, h3, by omega, parts_parse (by omega) hw (fun p hp => by rw [e] at hp; cases hp) (by rw [e]; exact Nat.zero_le _)⟩
end Go.Proofs.YtpmlgnbbkpplhaaGreatDoor
