/- What release.Fits says of a pattern and a path, by the pattern's chunks: from which places of the path the rest fits. No program in sight. -/
import Derived.Test.YtoeipmepmlikcaaDoorRFit
namespace Go.Proofs.YtoeipmepmlikcaaDoor
set_option linter.unusedSimpArgs false
set_option linter.unusedVariables false
set_option maxRecDepth 20000
open Go.RowKit Go.Eng
/-- the bytes ys fit a chunk of a pattern: one star, more stars, one byte -/
def chunkM (part ys : List UInt8) : Prop :=
  if part = [42] then ∀ c ∈ ys, c ≠ 47 else if part.getD 0 0 = 42 then True else ∃ c, ys = [c] ∧ (c = part.getD 0 0 ∨ (part = [63] ∧ c ≠ 47))
def mt : Nat → List UInt8 → List UInt8 → Prop
  | 0, _, ys => ys = []
  | k + 1, pat, ys => if pat = [] then ys = [] else ∃ i, i ≤ ys.length ∧ chunkM (pat.take (runN pat)) (ys.take i) ∧ mt k (pat.drop (runN pat)) (ys.drop i)
theorem seg_snoc {path : List UInt8} {s j : Nat} (hs : s ≤ j) (hj : j < path.length) : (path.take (j + 1)).drop s = (path.take j).drop s ++ [path.getD j 0] := by
  rw [List.take_succ_eq_append_getElem hj, List.drop_append_of_le_length (by rw [List.length_take]; omega), List.getD_eq_getElem?_getD, List.getElem?_eq_getElem hj]
  rfl
theorem seg_len {path : List UInt8} {s j : Nat} (hj : j ≤ path.length) : ((path.take j).drop s).length = j - s := by
  rw [List.length_drop, List.length_take]; omega
theorem seg_nil {path : List UInt8} {j : Nat} : (path.take j).drop j = [] := List.drop_eq_nil_of_le (by rw [List.length_take]; omega)
theorem step_iff {path part : List UInt8} {at_ : List Bool} : ∀ j, j ≤ path.length → (stepF path part at_ j = true ↔ ∃ s, s ≤ j ∧ at_.getD s false = true ∧ chunkM part ((path.take j).drop s)) := by
  intro j
  induction j with
  | zero =>
    intro _
    have h0 : (path.take 0).drop 0 = [] := by simp
    rw [stepF]
    constructor
    · intro h
      split at h
      · rename_i hp
        refine ⟨0, Nat.le_refl 0, h, ?_⟩
        rw [h0, chunkM]
        split
        · intro c hc; cases hc
        · trivial
      · cases h
    · rintro ⟨s, hs, ha, hc⟩
      obtain rfl : s = 0 := by omega
      rw [h0, chunkM] at hc
      split at hc
      · rename_i hp; subst hp; rw [if_pos (show ([42] : List UInt8).getD 0 0 = 42 from rfl)]; exact ha
      · split at hc
        · rename_i hp; rw [if_pos hp]; exact ha
        · obtain ⟨c, hc, _⟩ := hc; cases hc
  | succ j ih =>
    intro hj
    have ih := ih (by omega)
    have hjl : j < path.length := by omega
    rw [stepF]
    by_cases h1 : part = [42]
    · subst h1
      rw [if_pos rfl, Bool.or_eq_true, Bool.and_eq_true, ih]
      have hm : ∀ ys, chunkM [42] ys ↔ ∀ c ∈ ys, c ≠ 47 := fun ys => by rw [chunkM, if_pos rfl]
      constructor
      · rintro (h | ⟨⟨s, hs, ha, hc⟩, hn⟩)
        · exact ⟨j + 1, Nat.le_refl _, h, by rw [hm, seg_nil]; intro c hc; cases hc⟩
        · refine ⟨s, by omega, ha, ?_⟩
          rw [hm] at hc ⊢
          rw [seg_snoc hs hjl]
          intro c hcm
          rcases List.mem_append.1 hcm with h | h
          · exact hc c h
          · obtain rfl := List.mem_singleton.1 h; simpa using hn
      · rintro ⟨s, hs, ha, hc⟩
        rcases Nat.eq_or_lt_of_le hs with rfl | hlt
        · exact .inl ha
        · rw [hm, seg_snoc (by omega) hjl] at hc
          exact .inr ⟨⟨s, by omega, ha, (hm _).2 fun c h => hc c (List.mem_append_left _ h)⟩, by simpa using hc (path.getD j 0) (List.mem_append_right _ List.mem_cons_self)⟩
    · rw [if_neg h1]
      by_cases h2 : part.getD 0 0 = 42
      · rw [if_pos h2, Bool.or_eq_true, ih]
        have hm : ∀ ys, chunkM part ys := fun ys => by rw [chunkM, if_neg h1, if_pos h2]; trivial
        constructor
        · rintro (h | ⟨s, hs, ha, _⟩)
          · exact ⟨j + 1, Nat.le_refl _, h, hm _⟩
          · exact ⟨s, by omega, ha, hm _⟩
        · rintro ⟨s, hs, ha, _⟩
          rcases Nat.eq_or_lt_of_le hs with rfl | hlt
          · exact .inl ha
          · exact .inr ⟨s, by omega, ha, hm _⟩
      · rw [if_neg h2]
        have hm : ∀ ys, chunkM part ys ↔ ∃ c, ys = [c] ∧ (c = part.getD 0 0 ∨ (part = [63] ∧ c ≠ 47)) := fun ys => by rw [chunkM, if_neg h1, if_neg h2]
        have hseg : (path.take (j + 1)).drop j = [path.getD j 0] := by rw [seg_snoc (Nat.le_refl j) hjl, seg_nil]; rfl
        constructor
        · intro h
          simp only [Bool.and_eq_true, Bool.or_eq_true, decide_eq_true_eq, Bool.not_eq_true', decide_eq_false_iff_not] at h
          exact ⟨j, by omega, h.1, (hm _).2 ⟨path.getD j 0, hseg, h.2⟩⟩
        · rintro ⟨s, hs, ha, hc⟩
          obtain ⟨c, hc1, hc2⟩ := (hm _).1 hc
          have hl := congrArg List.length hc1
          rw [seg_len hj, List.length_singleton] at hl
          obtain rfl : s = j := by omega
          rw [hseg] at hc1
          obtain rfl := (List.cons.inj hc1).1
          simp only [Bool.and_eq_true, Bool.or_eq_true, decide_eq_true_eq, Bool.not_eq_true', decide_eq_false_iff_not]
          exact ⟨ha, hc2⟩
theorem getD_step {path part : List UInt8} {at_ : List Bool} {j : Nat} (h : j < at_.length) : (stepL path part at_).getD j false = stepF path part at_ j := by
  rw [stepL, List.getD_eq_getElem?_getD, List.getElem?_map, List.getElem?_range h]; rfl
theorem go_iff {path : List UInt8} : ∀ (k : Nat) (pat : List UInt8) (at_ : List Bool) (j : Nat), at_.length = path.length + 1 → pat.length ≤ k → j ≤ path.length → ((fitsGo path k pat at_).getD j false = true ↔ ∃ s, s ≤ j ∧ at_.getD s false = true ∧ mt k pat ((path.take j).drop s))
  | 0, pat, at_, j, ha, hk, hj => by
    rw [fitsGo]
    constructor
    · intro h; exact ⟨j, Nat.le_refl j, h, seg_nil⟩
    · rintro ⟨s, hs, h, hm⟩
      have hl := congrArg List.length (show (path.take j).drop s = [] from hm)
      rw [seg_len hj, List.length_nil] at hl
      obtain rfl : s = j := by omega
      exact h
  | k + 1, pat, at_, j, ha, hk, hj => by
    rw [fitsGo]
    by_cases hp : pat = []
    · rw [if_pos hp]
      constructor
      · intro h; exact ⟨j, Nat.le_refl j, h, by rw [mt, if_pos hp]; exact seg_nil⟩
      · rintro ⟨s, hs, h, hm⟩
        rw [mt, if_pos hp] at hm
        have hl := congrArg List.length hm
        rw [seg_len hj, List.length_nil] at hl
        obtain rfl : s = j := by omega
        exact h
    · have hr : 1 ≤ runN pat := runG_ge _ 1
      rw [if_neg hp, go_iff k _ _ j (by rw [stepL_len, ha]) (by rw [List.length_drop]; omega) hj]
      constructor
      · rintro ⟨s1, hs1, h1, hm⟩
        rw [getD_step (by omega), step_iff s1 (by omega)] at h1
        obtain ⟨s, hs, h2, hc⟩ := h1
        refine ⟨s, by omega, h2, ?_⟩
        rw [mt, if_neg hp]
        refine ⟨s1 - s, by rw [seg_len hj]; omega, ?_, ?_⟩
        · rw [List.take_drop, show s + (s1 - s) = s1 by omega, List.take_take, Nat.min_eq_left hs1]; exact hc
        · rw [List.drop_drop, show s + (s1 - s) = s1 by omega]; exact hm
      · rintro ⟨s, hs, h2, hm⟩
        rw [mt, if_neg hp] at hm
        obtain ⟨i, hi, hc, hm⟩ := hm
        rw [seg_len hj] at hi
        refine ⟨s + i, by omega, ?_, by rw [List.drop_drop] at hm; exact hm⟩
        rw [getD_step (by omega), step_iff (s + i) (by omega)]
        refine ⟨s, by omega, h2, ?_⟩
        rw [List.take_drop, List.take_take, Nat.min_eq_left (by omega)] at hc
        exact hc
/-! ### The reference's words -/
def e0L (n : Nat) : List Bool := true :: List.replicate n false
def globB (p path : List UInt8) : Bool := (fitsGo path p.length p (e0L path.length)).getD path.length false
theorem e0_at {n s : Nat} : (e0L n).getD s false = decide (s = 0) := by
  cases s with
  | zero => rfl
  | succ s => rw [e0L, List.getD_cons_succ, List.getD_eq_getElem?_getD, List.getElem?_replicate]; split <;> simp
theorem glob_iff (p path : List UInt8) : globB p path = true ↔ mt p.length p path := by
  rw [globB, go_iff p.length p _ path.length (by simp [e0L]) (Nat.le_refl _) (Nat.le_refl _)]
  constructor
  · rintro ⟨s, _, h, hm⟩
    rw [e0_at, decide_eq_true_eq] at h
    subst h
    rwa [List.take_length, List.drop_zero] at hm
  · intro hm
    exact ⟨0, Nat.zero_le _, rfl, by rwa [List.take_length, List.drop_zero]⟩
def anyB (p path : List UInt8) : Bool := (List.range path.length).any fun i => decide ((((path.getD i 0).toNat : Nat) : Int) = 47) && globB p (path.drop (i + 1))
def pfB (p path : List UInt8) : Bool :=
  if Lib.hasSuffix p [47] = true then globB (p ++ [42, 42]) path || (!decide (0 ≤ Lib.indexByte (Lib.trimSuffix (p ++ [42, 42]) [47, 42, 42]) 47) && anyB (p ++ [42, 42]) path)
  else globB p path || (!decide (0 ≤ Lib.indexByte p 47) && anyB p path)
theorem fits_iff (p path : List UInt8) : fitsB p path = (globB (pat1 p) path || (shortP p && anyB (pat1 p) path)) := by
  have h := go_iff (path := path) (pat1 p).length (pat1 p) ((List.range (path.length + 1)).map (at0F (shortP p) path)) path.length (by simp) (Nat.le_refl _) (Nat.le_refl _)
  rw [Bool.eq_iff_iff, fitsB, h, Bool.or_eq_true, glob_iff, Bool.and_eq_true, anyB, List.any_eq_true, List.take_length]
  constructor
  · rintro ⟨s, hs, ha, hm⟩
    rw [List.getD_eq_getElem?_getD, List.getElem?_map, List.getElem?_range (by omega)] at ha
    simp only [Option.map_some, Option.getD_some, at0F, Bool.or_eq_true, Bool.and_eq_true, decide_eq_true_eq] at ha
    rcases ha with ha | ⟨h1, h2⟩
    · obtain rfl : s = 0 := by omega
      exact .inl (by rwa [List.drop_zero] at hm)
    · rcases Nat.eq_zero_or_pos s with h0 | h0
      · subst h0; exact .inl (by rwa [List.drop_zero] at hm)
      · refine .inr ⟨h1, s - 1, List.mem_range.2 (by omega), ?_⟩
        rw [Bool.and_eq_true, decide_eq_true_eq, glob_iff, show s - 1 + 1 = s by omega]
        exact ⟨h2, hm⟩
  · rintro (hm | ⟨h1, i, hi, h2⟩)
    · exact ⟨0, Nat.zero_le _, by rw [List.getD_eq_getElem?_getD, List.getElem?_map, List.getElem?_range (by omega)]; simp [at0F], by rwa [List.drop_zero]⟩
    · rw [List.mem_range] at hi
      rw [Bool.and_eq_true, decide_eq_true_eq, glob_iff] at h2
      refine ⟨i + 1, by omega, ?_, h2.2⟩
      rw [List.getD_eq_getElem?_getD, List.getElem?_map, List.getElem?_range (by omega)]
      simp only [Option.map_some, Option.getD_some, at0F, Bool.or_eq_true, Bool.and_eq_true, decide_eq_true_eq, Nat.add_sub_cancel]
      exact .inr ⟨h1, h2.1⟩
theorem suffix_split {p : List UInt8} (h : Lib.hasSuffix p [47] = true) : ∃ q, p = q ++ [47] := by
  obtain ⟨q, hq⟩ := List.isSuffixOf_iff_suffix.1 h
  exact ⟨q, hq.symm⟩
theorem pf_eq (p path : List UInt8) : pfB p path = fitsB p path := by
  rw [fits_iff, pfB]
  by_cases h : Lib.hasSuffix p [47] = true
  · obtain ⟨q, rfl⟩ := suffix_split h
    have e1 : Lib.trimSuffix (q ++ [47]) [47] = q := by rw [Lib.trimSuffix, if_pos h]; simp
    have h3 : Lib.hasSuffix (q ++ [47] ++ [42, 42]) [47, 42, 42] = true := List.isSuffixOf_iff_suffix.2 ⟨q, by simp⟩
    have e2 : Lib.trimSuffix (q ++ [47] ++ [42, 42]) [47, 42, 42] = q := by rw [Lib.trimSuffix, if_pos h3]; simp
    rw [if_pos h, pat1, if_pos h, shortP, e1, e2]
  · have e1 : Lib.trimSuffix p [47] = p := by rw [Lib.trimSuffix, if_neg h]
    rw [if_neg h, pat1, if_neg h, shortP, e1]
end Go.Proofs.YtoeipmepmlikcaaDoor
