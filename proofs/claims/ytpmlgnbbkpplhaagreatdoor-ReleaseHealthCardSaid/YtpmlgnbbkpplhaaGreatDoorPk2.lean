/- Part 2, merged by a program. Versions compared, in plain lists: the order is total up to equal right versions; texts and versions go to and fro. No program in sight. parse, Parse, Text and what they stand on, walked. Conditions: those of each theorem. Compare, walked, and versions as they lie in memory. Conditions: those of each theorem. -/
import Derived.Sort.Walk0
import Derived.Test.YtpmlgnbbkpplhaaGreatDoorSjn
import Derived.Test.YtpmlgnbbkpplhaaGreatDoorPermg
import Derived.Test.YtpmlgnbbkpplhaaGreatDoorPk1
section
namespace Go.Proofs.YtpmlgnbbkpplhaaGreatDoor
set_option linter.unusedSimpArgs false
set_option linter.unusedVariables false
set_option maxRecDepth 20000
open Go.RowKit Go.Eng
/-! ### Three-way comparing -/
structure Cmp3 {α : Type} (f : α → α → Int) : Prop where
  anti : ∀ a b, f b a = -f a b
  tr : ∀ a b c, f a b ≤ 0 → f b c ≤ 0 → f a c ≤ 0
section
variable {α β : Type} {f g : α → α → Int}
theorem Cmp3.refl (h : Cmp3 f) (a : α) : f a a = 0 := by have := h.anti a a; omega
theorem Cmp3.lt_le (h : Cmp3 f) {a b c : α} (h1 : f a b < 0) (h2 : f b c ≤ 0) : f a c < 0 := by
  by_cases h3 : f a c < 0
  · exact h3
  · have h4 := h.anti a c
    have h5 := h.tr b c a h2 (by omega)
    have h6 := h.anti a b
    omega
theorem Cmp3.le_lt (h : Cmp3 f) {a b c : α} (h1 : f a b ≤ 0) (h2 : f b c < 0) : f a c < 0 := by
  by_cases h3 : f a c < 0
  · exact h3
  · have h4 := h.anti a c
    have h5 := h.tr c a b (by omega) h1
    have h6 := h.anti b c
    omega
theorem Cmp3.zero (h : Cmp3 f) {a b c : α} (h1 : f a b = 0) (h2 : f b c = 0) : f a c = 0 := by
  have h3 := h.tr a b c (by omega) (by omega)
  have h4 := h.anti a b
  have h5 := h.anti b c
  have h6 := h.tr c b a (by omega) (by omega)
  have h7 := h.anti a c
  omega
theorem Cmp3.comap (h : Cmp3 f) (k : β → α) : Cmp3 fun x y => f (k x) (k y) := ⟨fun _ _ => h.anti _ _, fun _ _ _ => h.tr _ _ _⟩
theorem cmp3_lex (hf : Cmp3 f) (hg : Cmp3 g) : Cmp3 fun a b => if f a b ≠ 0 then f a b else g a b := by
  constructor
  · intro a b
    have h1 := hf.anti a b
    have h2 := hg.anti a b
    show (if f b a ≠ 0 then f b a else g b a) = -(if f a b ≠ 0 then f a b else g a b)
    by_cases h : f a b = 0
    · rw [if_neg (by omega), if_neg (by omega)]; exact h2
    · rw [if_pos (by omega), if_pos h]; exact h1
  · intro a b c h1 h2
    have h1 : (if f a b ≠ 0 then f a b else g a b) ≤ 0 := h1
    have h2 : (if f b c ≠ 0 then f b c else g b c) ≤ 0 := h2
    show (if f a c ≠ 0 then f a c else g a c) ≤ 0
    by_cases ha : f a b = 0
    · rw [if_neg (by omega)] at h1
      by_cases hb : f b c = 0
      · rw [if_neg (by omega)] at h2
        rw [if_neg (by have := hf.zero ha hb; omega)]; exact hg.tr _ _ _ h1 h2
      · rw [if_pos hb] at h2
        have := hf.le_lt (a := a) (b := b) (c := c) (by omega) (by omega)
        rw [if_pos (by omega)]; omega
    · rw [if_pos ha] at h1
      have hb : f b c ≤ 0 := by
        by_cases hb : f b c = 0
        · omega
        · rw [if_pos hb] at h2; exact h2
      have := hf.lt_le (a := a) (b := b) (c := c) (by omega) hb
      rw [if_pos (by omega)]; omega
def cmpL (f : α → α → Int) : List α → List α → Int
  | [], [] => 0
  | [], _ :: _ => -1
  | _ :: _, [] => 1
  | a :: r, b :: s => if f a b ≠ 0 then f a b else cmpL f r s
theorem cmpL_anti (hf : Cmp3 f) : ∀ x y : List α, cmpL f y x = -cmpL f x y
  | [], [] => rfl
  | [], _ :: _ => rfl
  | _ :: _, [] => rfl
  | a :: r, b :: s => by
    have h1 := hf.anti a b
    have h2 := cmpL_anti hf r s
    rw [cmpL, cmpL]
    by_cases h : f a b = 0
    · rw [if_neg (by omega), if_neg (by omega)]; exact h2
    · rw [if_pos (by omega), if_pos h]; exact h1
theorem cmpL_tr (hf : Cmp3 f) : ∀ x y z : List α, cmpL f x y ≤ 0 → cmpL f y z ≤ 0 → cmpL f x z ≤ 0
  | [], _, [], _, _ => Int.le_refl _
  | [], _, _ :: _, _, _ => by show (-1 : Int) ≤ 0; omega
  | _ :: _, [], _, h, _ => by have h : (1 : Int) ≤ 0 := h; omega
  | _ :: _, _ :: _, [], _, h => by have h : (1 : Int) ≤ 0 := h; omega
  | a :: r, b :: s, c :: t, h1, h2 => by
    rw [cmpL] at h1 h2 ⊢
    by_cases ha : f a b = 0
    · rw [if_neg (by omega)] at h1
      by_cases hb : f b c = 0
      · rw [if_neg (by omega)] at h2
        rw [if_neg (by have := hf.zero ha hb; omega)]; exact cmpL_tr hf r s t h1 h2
      · rw [if_pos hb] at h2
        have := hf.le_lt (a := a) (b := b) (c := c) (by omega) (by omega)
        rw [if_pos (by omega)]; omega
    · rw [if_pos ha] at h1
      have hb : f b c ≤ 0 := by
        by_cases hb : f b c = 0
        · omega
        · rw [if_pos hb] at h2; exact h2
      have := hf.lt_le (a := a) (b := b) (c := c) (by omega) hb
      rw [if_pos (by omega)]; omega
theorem cmp3_list (hf : Cmp3 f) : Cmp3 (cmpL f) := ⟨cmpL_anti hf, cmpL_tr hf⟩
end
theorem cmp3_J : Cmp3 cmpJ := by
  constructor
  · intro a b; unfold cmpJ; split <;> split <;> (try split) <;> omega
  · intro a b c h1 h2
    unfold cmpJ at *
    split at h1 <;> split at h2 <;> split <;> (try split) <;> (try split at h1) <;> (try split at h2) <;> omega
theorem bl_irr (a : List UInt8) : ¬ a < a := List.lt_irrefl a
theorem bl_tr {a b c : List UInt8} (h1 : a < b) (h2 : b < c) : a < c := List.lt_trans h1 h2
theorem bl_tot {a b : List UInt8} (h1 : ¬ a < b) (h2 : ¬ b < a) : a = b := List.le_antisymm (List.not_lt.1 h2) (List.not_lt.1 h1)
theorem cmpB_lt (a b : List UInt8) : cmpB a b = if a < b then -1 else if a = b then 0 else 1 := by
  unfold cmpB
  rw [Go.Proofs.bytesLess_eq]
  simp only [decide_eq_true_eq]
theorem cmpB_zero {a b : List UInt8} (h : cmpB a b = 0) : a = b := by
  rw [cmpB_lt] at h
  split at h
  · omega
  · split at h
    · assumption
    · omega
theorem cmpB_le {a b : List UInt8} : cmpB a b ≤ 0 ↔ ¬ b < a := by
  rw [cmpB_lt]
  by_cases h1 : a < b
  · rw [if_pos h1]; exact ⟨fun _ h => bl_irr _ (bl_tr h1 h), fun _ => by omega⟩
  · rw [if_neg h1]
    by_cases h2 : a = b
    · rw [if_pos h2]; subst h2; exact ⟨fun _ => bl_irr _, fun _ => by omega⟩
    · rw [if_neg h2]; exact ⟨fun h => by omega, fun h => absurd (bl_tot h1 h) h2⟩
theorem cmp3_B : Cmp3 cmpB := by
  constructor
  · intro a b
    rw [cmpB_lt, cmpB_lt]
    by_cases h1 : a < b
    · rw [if_pos h1, if_neg (fun h => bl_irr _ (bl_tr h1 h)), if_neg (fun e => by subst e; exact bl_irr _ h1)]; rfl
    · by_cases h2 : a = b
      · subst h2; rw [if_neg h1, if_pos rfl]; rfl
      · have h3 : b < a := by
          by_cases h3 : b < a
          · exact h3
          · exact absurd (bl_tot h1 h3) h2
        rw [if_pos h3, if_neg h1, if_neg h2]
  · intro a b c h1 h2
    rw [cmpB_le] at *
    intro h
    by_cases h3 : b < c
    · exact h1 (bl_tr h3 h)
    · rw [bl_tot h3 h2] at h1; exact h1 h
/-! ### Versions -/
def ptNum (s : List UInt8) : Bool := allOf s digB && decide ((s.length : Int) ≤ 6)
def cmpPart (x y : List UInt8) : Int := if (ptNum x && ptNum y) = true then cmpJ (valD x : Nat) (valD y : Nat) else if ptNum x = true then -1 else if ptNum y = true then 1 else cmpB x y
theorem cmp3_part : Cmp3 cmpPart := by
  constructor
  · intro x y
    unfold cmpPart
    cases ptNum x <;> cases ptNum y
    · exact cmp3_B.anti x y
    · rfl
    · rfl
    · exact cmp3_J.anti _ _
  · intro x y z h1 h2
    unfold cmpPart at *
    cases hx : ptNum x <;> cases hy : ptNum y <;> cases hz : ptNum z <;> simp only [hx, hy, hz, Bool.and_self, Bool.and_false, Bool.false_and, Bool.true_and, if_true, if_false, Bool.false_eq_true] at h1 h2 ⊢ <;> (try omega)
    · exact cmp3_B.tr _ _ _ h1 h2
    · exact cmp3_J.tr _ _ _ h1 h2
def cmpPre (x y : List (List UInt8)) : Int := if x = [] then (if y = [] then 0 else 1) else if y = [] then -1 else cmpL cmpPart x y
theorem cmp3_pre : Cmp3 cmpPre := by
  have h := cmp3_list cmp3_part
  constructor
  · intro x y
    unfold cmpPre
    by_cases h1 : x = [] <;> by_cases h2 : y = [] <;> simp only [h1, h2, if_true, if_false] <;> (try rfl)
    exact h.anti x y
  · intro x y z a b
    unfold cmpPre at *
    by_cases h1 : x = [] <;> by_cases h2 : y = [] <;> by_cases h3 : z = [] <;> simp only [h1, h2, h3, if_true, if_false] at a b ⊢ <;> (try omega)
    exact h.tr x y z a b
def or4 (a b c d : Int) : Int := if a ≠ 0 then a else if b ≠ 0 then b else if c ≠ 0 then c else d
def headC (x y : PVer) : Int := or4 (cmpB x.p y.p) (cmpJ x.a y.a) (cmpJ x.b y.b) (cmpJ x.c y.c)
def cmpV (x y : PVer) : Int := if headC x y ≠ 0 then headC x y else cmpPre x.pre y.pre
theorem cmp3_V : Cmp3 cmpV :=
  cmp3_lex (cmp3_lex (cmp3_B.comap PVer.p) (cmp3_lex (cmp3_J.comap PVer.a) (cmp3_lex (cmp3_J.comap PVer.b) (cmp3_J.comap PVer.c)))) (cmp3_pre.comap PVer.pre)
/-! ### Numbers -/
theorem ofNat_dig {n : Nat} (h : n < 10) : (UInt8.ofNat (48 + n)).toNat = 48 + n := by simp; omega
theorem snoc_ind {α : Type} {P : List α → Prop} (h0 : P []) (h1 : ∀ l a, P l → P (l ++ [a])) (l : List α) : P l := by
  have h : ∀ m : List α, P m.reverse := by
    intro m
    induction m with
    | nil => exact h0
    | cons a r ih => rw [List.reverse_cons]; exact h1 _ _ ih
  have := h l.reverse
  rwa [List.reverse_reverse] at this
theorem dec_val (s : List UInt8) : s ≠ [] → (∀ c ∈ s, 48 ≤ c.toNat ∧ c.toNat ≤ 57) → (1 < s.length → (s.getD 0 0).toNat ≠ 48) → Lib.decDigits (valD s) = s ∧ ((s.getD 0 0).toNat ≠ 48 → 0 < valD s) := by
  refine snoc_ind (P := fun s => s ≠ [] → (∀ c ∈ s, 48 ≤ c.toNat ∧ c.toNat ≤ 57) → (1 < s.length → (s.getD 0 0).toNat ≠ 48) → Lib.decDigits (valD s) = s ∧ ((s.getD 0 0).toNat ≠ 48 → 0 < valD s)) (fun h => absurd rfl h) ?_ s
  intro l a ih _ hd hz
  have ha := hd a (List.mem_append_right _ (List.mem_singleton.2 rfl))
  have hc : UInt8.ofNat (48 + (a.toNat - 48)) = a := UInt8.toNat_inj.1 (by rw [ofNat_dig (by omega)]; omega)
  by_cases h0 : l = []
  · subst h0
    have e : valD ([] ++ [a]) = a.toNat - 48 := by rw [valD_snoc]; show 0 * 10 + _ = _; omega
    rw [e, Lib.decDigits_one (by omega), hc]
    exact ⟨rfl, fun h => by have h : a.toNat ≠ 48 := h; omega⟩
  · have hl : 0 < l.length := List.length_pos_iff.2 h0
    have hg : (l ++ [a]).getD 0 0 = l.getD 0 0 := by
      cases l with
      | nil => exact absurd rfl h0
      | cons x r => rfl
    have hz1 : (l.getD 0 0).toNat ≠ 48 := by rw [← hg]; exact hz (by rw [List.length_append, List.length_singleton]; omega)
    obtain ⟨i1, i2⟩ := ih h0 (fun c hc => hd c (List.mem_append_left _ hc)) fun _ => hz1
    have i3 := i2 hz1
    rw [valD_snoc]
    refine ⟨?_, fun _ => by omega⟩
    rw [Lib.decDigits, dif_neg (by omega), show (valD l * 10 + (a.toNat - 48)) / 10 = valD l by omega, show (valD l * 10 + (a.toNat - 48)) % 10 = a.toNat - 48 by omega, i1, hc]
theorem val_dec (u : Nat) : valD (Lib.decDigits u) = u ∧ Lib.decDigits u ≠ [] ∧ (∀ c ∈ Lib.decDigits u, digB.contains c = true) ∧ (1 ≤ u → ((Lib.decDigits u).getD 0 0).toNat ≠ 48) := by
  induction u using Nat.strongRecOn with
  | _ u ih =>
    have hd : ∀ n : Nat, n < 10 → digB.contains (UInt8.ofNat (48 + n)) = true := by decide
    by_cases h : u < 10
    · rw [Lib.decDigits_one h]
      refine ⟨?_, by simp, fun c hc => ?_, fun h1 => ?_⟩
      · show 0 * 10 + ((UInt8.ofNat (48 + u)).toNat - 48) = u
        rw [ofNat_dig h]; omega
      · rw [List.mem_singleton.1 hc]; exact hd u h
      · show (UInt8.ofNat (48 + u)).toNat ≠ 48
        rw [ofNat_dig h]; omega
    · obtain ⟨i1, i2, i3, i4⟩ := ih (u / 10) (by omega)
      rw [Lib.decDigits, dif_neg h]
      refine ⟨?_, by simp, fun c hc => ?_, fun _ => ?_⟩
      · rw [valD_snoc, i1, ofNat_dig (by omega)]; omega
      · rcases List.mem_append.1 hc with hc | hc
        · exact i3 c hc
        · rw [List.mem_singleton.1 hc]; exact hd _ (by omega)
      · have := i4 (by omega)
        cases hq : Lib.decDigits (u / 10) with
        | nil => exact absurd hq i2
        | cons x r => rw [hq] at this; exact this
theorem dec_len : ∀ (k u : Nat), u < 10 ^ (k + 1) → (Lib.decDigits u).length ≤ k + 1
  | 0, u, h => by rw [Lib.decDigits_one (by omega)]; exact Nat.le_refl _
  | k + 1, u, h => by
    by_cases hu : u < 10
    · rw [Lib.decDigits_one hu]; simp
    · rw [Lib.decDigits, dif_neg hu, List.length_append]
      have := dec_len k (u / 10) (by rw [Nat.div_lt_iff_lt_mul (by decide)]; rw [Nat.pow_succ] at h; exact h)
      simp only [List.length_cons, List.length_nil]; omega
theorem numOk_val {s : List UInt8} (h : numOk s = true) : Lib.decDigits (valD s) = s ∧ valD s ≤ 999999 := by
  have hd := allOf_dig (s := s) (by simp only [numOk, Bool.and_eq_true] at h; exact h.1.1)
  simp only [numOk, Bool.and_eq_true, Bool.not_eq_true', decide_eq_false_iff_not, Bool.and_eq_false_iff] at h
  have h1 := (dec_val s hd.1 hd.2 (fun hl hz => by rcases h.2 with h2 | h2 <;> omega)).1
  have hb : ∀ (l : List UInt8), (∀ c ∈ l, 48 ≤ c.toNat ∧ c.toNat ≤ 57) → valD l < 10 ^ l.length := by
    intro l
    refine snoc_ind (P := fun l => (∀ c ∈ l, 48 ≤ c.toNat ∧ c.toNat ≤ 57) → valD l < 10 ^ l.length) (fun _ => by show 0 < 10 ^ 0; decide) ?_ l
    intro l a ih hl
    have := ih fun c hc => hl c (List.mem_append_left _ hc)
    have ha := hl a (List.mem_append_right _ (List.mem_singleton.2 rfl))
    rw [valD_snoc, List.length_append, List.length_singleton, Nat.pow_succ]; omega
  have h2 := hb s hd.2
  have h3 : 10 ^ s.length ≤ 10 ^ 6 := Nat.pow_le_pow_right (by decide) (by omega)
  exact ⟨h1, by omega⟩
theorem dec_num {u : Nat} (h : u ≤ 999999) : numOk (Lib.decDigits u) = true := by
  obtain ⟨h1, h2, h3, h4⟩ := val_dec u
  have hl := dec_len 5 u (by omega)
  have h5 : allOf (Lib.decDigits u) digB = true := allOf_iff.2 ⟨h2, h3⟩
  simp only [numOk, Bool.and_eq_true, Bool.not_eq_true', decide_eq_false_iff_not, Bool.and_eq_false_iff]
  refine ⟨⟨h5, by omega⟩, ?_⟩
  by_cases hu : 1 ≤ u
  · right; have := h4 hu; omega
  · left
    rw [show u = 0 by omega, Lib.decDigits_one (by omega)]; simp
/-! ### Right versions -/
structure VRight (v : PVer) : Prop where
  p : projOk v.p = true
  a : 0 ≤ v.a ∧ v.a ≤ 999999
  b : 0 ≤ v.b ∧ v.b ≤ 999999
  c : 0 ≤ v.c ∧ v.c ≤ 999999
  n : v.pre.length ≤ 5
  pre : ∀ p ∈ v.pre, isPreB p = true
theorem part_zero {x y : List UInt8} (hx : isPreB x = true) (hy : isPreB y = true) (h : cmpPart x y = 0) : x = y := by
  have hn : ∀ z, isPreB z = true → ptNum z = true → numOk z = true := by
    intro z hz hp
    simp only [ptNum, Bool.and_eq_true] at hp
    unfold isPreB at hz
    rwa [if_pos hp.1] at hz
  unfold cmpPart at h
  cases h1 : ptNum x <;> cases h2 : ptNum y <;> simp only [h1, h2, Bool.and_self, Bool.and_false, Bool.false_and, Bool.true_and, if_true, if_false, Bool.false_eq_true] at h
  · exact cmpB_zero h
  · omega
  · omega
  · have e : valD x = valD y := by unfold cmpJ at h; split at h <;> (try split at h) <;> omega
    rw [← (numOk_val (hn x hx h1)).1, ← (numOk_val (hn y hy h2)).1, e]
theorem cmpL_zero : ∀ {x y : List (List UInt8)}, (∀ p ∈ x, isPreB p = true) → (∀ p ∈ y, isPreB p = true) → cmpL cmpPart x y = 0 → x = y
  | [], [], _, _, _ => rfl
  | [], _ :: _, _, _, h => by have h : (-1 : Int) = 0 := h; omega
  | _ :: _, [], _, _, h => by have h : (1 : Int) = 0 := h; omega
  | a :: r, b :: s, hx, hy, h => by
    rw [cmpL] at h
    split at h
    · omega
    · rename_i h0
      rw [part_zero (hx a (List.mem_cons_self ..)) (hy b (List.mem_cons_self ..)) (by omega), cmpL_zero (fun p hp => hx p (List.mem_cons_of_mem _ hp)) (fun p hp => hy p (List.mem_cons_of_mem _ hp)) h]
theorem cmpJ_zero {x y : Int} (h : cmpJ x y = 0) : x = y := by unfold cmpJ at h; split at h <;> (try split at h) <;> omega
theorem cmpV_zero {x y : PVer} (hx : VRight x) (hy : VRight y) (h : cmpV x y = 0) : x = y := by
  unfold cmpV at h
  split at h
  · omega
  · rename_i h0
    have h0 : headC x y = 0 := by omega
    unfold headC or4 at h0
    split at h0
    · omega
    · rename_i e1
      split at h0
      · omega
      · rename_i e2
        split at h0
        · omega
        · rename_i e3
          have e1 := cmpB_zero (show cmpB x.p y.p = 0 by omega)
          have e2 := cmpJ_zero (show cmpJ x.a y.a = 0 by omega)
          have e3 := cmpJ_zero (show cmpJ x.b y.b = 0 by omega)
          have e4 := cmpJ_zero h0
          have e5 : x.pre = y.pre := by
            unfold cmpPre at h
            split at h
            · split at h
              · rename_i a b; rw [a, b]
              · omega
            · split at h
              · omega
              · exact cmpL_zero hx.pre hy.pre h
          cases x; cases y; simp_all
/-! ### Texts -/
def verT (v : PVer) : List UInt8 := v.p ++ [45] ++ Lib.itoa v.a ++ [46] ++ Lib.itoa v.b ++ [46] ++ Lib.itoa v.c ++ (if v.pre = [] then [] else [45] ++ Lib.join v.pre [46])
theorem itoa_nat {n : Int} (h : 0 ≤ n) : Lib.itoa n = Lib.decDigits n.toNat := by
  obtain ⟨u, rfl⟩ : ∃ u : Nat, n = u := ⟨n.toNat, by omega⟩
  rw [Lib.itoa_nonneg, Int.toNat_natCast]
theorem itoa_numI {s : List UInt8} (h : numOk s = true) : Lib.itoa (numI s) = s := by
  unfold numI
  rw [if_pos h, Lib.itoa_nonneg, (numOk_val h).1]
theorem verT_jn (v : PVer) : verT v = v.p ++ 45 :: (jn 46 [Lib.itoa v.a, Lib.itoa v.b, Lib.itoa v.c] ++ (if v.pre = [] then [] else 45 :: jn 46 v.pre)) := by
  unfold verT
  rw [jn_join]
  by_cases h : v.pre = [] <;> simp [h, jn]
theorem ver_right {s : List UInt8} (h : relOk s = true) : VRight (verV s) := by
  obtain ⟨h0, h1, h2, h3, h4⟩ := (parse_iff s).1 h
  obtain ⟨p1, p2, p3⟩ := parse_parts h3 h4
  have hn : ∀ w, numOk w = true → 0 ≤ numI w ∧ numI w ≤ 999999 := by
    intro w hw
    unfold numI
    rw [if_pos hw]
    have := (numOk_val hw).2
    omega
  obtain ⟨x, y, z, e⟩ := triple h3
  rw [e] at p1
  refine ⟨h2, hn _ ?_, hn _ ?_, hn _ ?_, p3, p2⟩ <;> rw [e]
  · exact p1 x (by simp)
  · exact p1 y (by simp)
  · exact p1 z (by simp)
theorem verT_of {s : List UInt8} (h : relOk s = true) : verT (verV s) = s := by
  obtain ⟨h0, h1, h2, h3, h4⟩ := (parse_iff s).1 h
  obtain ⟨p1, p2, p3⟩ := parse_parts h3 h4
  obtain ⟨x, y, z, e⟩ := triple h3
  rw [e] at p1
  rw [verT_jn]
  show prS s ++ 45 :: (jn 46 [Lib.itoa (numI ((wdS s).getD 0 [])), Lib.itoa (numI ((wdS s).getD 1 [])), Lib.itoa (numI ((wdS s).getD 2 []))] ++ (if preS s = [] then [] else 45 :: jn 46 (preS s))) = s
  rw [e]
  show prS s ++ 45 :: (jn 46 [Lib.itoa (numI x), Lib.itoa (numI y), Lib.itoa (numI z)] ++ (if preS s = [] then [] else 45 :: jn 46 (preS s))) = s
  rw [itoa_numI (p1 x (by simp)), itoa_numI (p1 y (by simp)), itoa_numI (p1 z (by simp)), ← e]
  have e2 : jn 46 (wdS s) = (cutC 45 (rsS s)).1 := jn_split 46 _
  rw [e2]
  conv => rhs; rw [ln_parts h0]
  congr 2
  cases hc : (cutC 45 (rsS s)).2.2 with
  | false =>
    have e3 : preS s = [] := by unfold preS; rw [if_neg (by simp [hc])]
    rw [e3, if_pos rfl, List.append_nil, (cut_f hc).1]
  | true =>
    have e3 : preS s = splitC 46 (cutC 45 (rsS s)).2.1 := by unfold preS; rw [if_pos hc]
    rw [e3, if_neg (split_ne _ _), jn_split, ← cut_t hc]
theorem proj_dot {s : List UInt8} (h : projOk s = true) : (46 : UInt8) ∉ s := by
  intro hm
  simp only [projOk, Bool.and_eq_true, Bool.not_eq_true', decide_eq_false_iff_not] at h
  obtain ⟨k, hk⟩ := List.mem_iff_getElem?.1 hm
  have h0 := Lib.indexByte_ge s 46
  exact Lib.indexByte_none (l := s) (c := 46) (by omega) k hk
theorem of_verT {v : PVer} (hv : VRight v) (hl : (verT v).length ≤ 40) : relOk (verT v) = true ∧ verV (verT v) = v := by
  have hdig : ∀ n : Int, 0 ≤ n ∧ n ≤ 999999 → numOk (Lib.itoa n) = true ∧ numI (Lib.itoa n) = n ∧ (∀ c ∈ Lib.itoa n, c ≠ 45 ∧ c ≠ 46) := by
    intro n hn
    rw [itoa_nat hn.1]
    have h1 := dec_num (u := n.toNat) (by omega)
    refine ⟨h1, ?_, fun c hc => let_not (sub_let ((val_dec n.toNat).2.2.1 c hc))⟩
    unfold numI
    rw [if_pos h1, (val_dec n.toNat).1]; omega
  obtain ⟨a1, a2, a3⟩ := hdig v.a hv.a
  obtain ⟨b1, b2, b3⟩ := hdig v.b hv.b
  obtain ⟨c1, c2, c3⟩ := hdig v.c hv.c
  have hN : ∀ c ∈ jn 46 [Lib.itoa v.a, Lib.itoa v.b, Lib.itoa v.c], c ≠ 45 := by
    intro c hc
    rcases mem_jn hc with rfl | ⟨w, hw, h⟩
    · decide
    · simp only [List.mem_cons, List.not_mem_nil, or_false] at hw
      rcases hw with rfl | rfl | rfl
      · exact (a3 c h).1
      · exact (b3 c h).1
      · exact (c3 c h).1
  have hidx : verT v = (v.p ++ 45 :: Lib.itoa v.a) ++ 46 :: (jn 46 [Lib.itoa v.b, Lib.itoa v.c] ++ (if v.pre = [] then [] else 45 :: jn 46 v.pre)) := by
    rw [verT_jn]; simp [jn]
  have hnot : (46 : UInt8) ∉ v.p ++ 45 :: Lib.itoa v.a := by
    intro h
    rcases List.mem_append.1 h with h | h
    · exact proj_dot hv.p h
    · rcases List.mem_cons.1 h with h | h
      · exact absurd h (by decide)
      · exact (a3 46 h).2 rfl
  have hpt : ptN (verT v) = (v.p ++ 45 :: Lib.itoa v.a).length := by
    unfold ptN
    rw [hidx, index_app hnot, Int.toNat_natCast]
  have htk : (verT v).take (ptN (verT v)) = v.p ++ 45 :: Lib.itoa v.a := by
    rw [hpt, hidx, List.take_left']
    rfl
  have hln : lnI (verT v) = v.p.length := by
    unfold lnI
    rw [htk, last_app fun h => (a3 45 h).1 rfl]
  have hpr : prS (verT v) = v.p := by
    unfold prS
    rw [hln, Int.toNat_natCast, verT_jn, List.take_left']
    rfl
  have hrs : rsS (verT v) = jn 46 [Lib.itoa v.a, Lib.itoa v.b, Lib.itoa v.c] ++ (if v.pre = [] then [] else 45 :: jn 46 v.pre) := by
    unfold rsS
    rw [hln, Int.toNat_natCast, verT_jn, ← List.drop_drop, List.drop_left' rfl]
    rfl
  have hcut : cutC 45 (rsS (verT v)) = (jn 46 [Lib.itoa v.a, Lib.itoa v.b, Lib.itoa v.c], jn 46 v.pre, !decide (v.pre = [])) := by
    rw [hrs]
    by_cases h : v.pre = []
    · rw [if_pos h, List.append_nil, cut_not fun hc => hN 45 hc rfl, h]; rfl
    · rw [if_neg h, cut_app fun hc => hN 45 hc rfl]; simp [h]
  have hwd : wdS (verT v) = [Lib.itoa v.a, Lib.itoa v.b, Lib.itoa v.c] := by
    unfold wdS
    rw [hcut]
    refine split_jn 46 (by simp) fun w hw hm => ?_
    simp only [List.mem_cons, List.not_mem_nil, or_false] at hw
    rcases hw with rfl | rfl | rfl
    · exact (a3 46 hm).2 rfl
    · exact (b3 46 hm).2 rfl
    · exact (c3 46 hm).2 rfl
  have hpre : preS (verT v) = v.pre := by
    unfold preS
    rw [hcut]
    by_cases h : v.pre = []
    · simp [h]
    · rw [if_pos (by simp [h])]
      exact split_jn 46 h fun w hw hm => (let_not ((preB_let (hv.pre w hw)).2 46 hm)).2 rfl
  constructor
  · refine (parse_iff _).2 ⟨by omega, hl, by rw [hpr]; exact hv.p, by rw [hwd]; rfl, parts_parse (by rw [hwd]; rfl) ?_ (by rw [hpre]; exact hv.pre) (by rw [hpre]; exact hv.n)⟩
    intro w hw
    rw [hwd] at hw
    simp only [List.mem_cons, List.not_mem_nil, or_false] at hw
    rcases hw with rfl | rfl | rfl <;> assumption
  · unfold verV
    rw [hpr, hwd, hpre]
    show PVer.mk v.p (numI (Lib.itoa v.a)) (numI (Lib.itoa v.b)) (numI (Lib.itoa v.c)) v.pre = v
    rw [a2, b2, c2]
def outB (n lo hi : Int) : Bool := decide (n < lo) || decide (hi < n)
def txtR (v : PVer) : List UInt8 × Int :=
  if projOk v.p = false then ([], 3)
  else if (outB v.a 0 999999 || outB v.b 0 999999 || outB v.c 0 999999) = true then ([], 2)
  else if (5 : Int) < v.pre.length then ([], 4)
  else if badPre v.pre = true then ([], 8)
  else if (40 : Int) < (verT v).length then ([], 4) else (verT v, 0)
theorem right_txt {v : PVer} (h : VRight v) (hl : (verT v).length ≤ 40) : txtR v = (verT v, 0) := by
  have ha := h.a
  have hb := h.b
  have hc := h.c
  have hn := h.n
  unfold txtR
  rw [if_neg (by simp [h.p]), if_neg (by simp only [outB, Bool.or_eq_true, decide_eq_true_eq, not_or]; omega), if_neg (by omega), if_neg (by simp [bad_iff.2 h.pre]), if_neg (by omega)]
/-! ### Ranges, ties -/
end Go.Proofs.YtpmlgnbbkpplhaaGreatDoor
end
section
namespace Go.Proofs.YtpmlgnbbkpplhaaGreatDoor
set_option linter.unusedSimpArgs false
set_option linter.unusedVariables false
set_option maxRecDepth 20000
open Go.RowKit Go.Eng
theorem nilS {w : World} : SlT strE 1 w none 0 [] := ⟨⟨by simp, fun h => by simp at h⟩, rfl⟩
theorem TrimLet_any (s : List UInt8) (hs : s.length ≤ 1000000000) (w : World) : Calls Tryz.prog 84 #[str s, str letB] w fun e w' => e = .returned (str (Lib.trimS s letB)) ∧ Below w.heap.size w w' :=
  Any.strings_Trim_laid Tryz.lays160 (by kernel_rfl) ⟨s.toArray⟩ ⟨letB.toArray⟩ w (by rw [Lib.size_eq]; simp; omega) (by decide) (ascii_of_all (by decide))
theorem allOfL_any (s : List UInt8) (hs : s.length ≤ 1000000000) (w : World) : Calls Tryz.prog 189 #[str s, str letB] w fun e w' => e = .returned (.bool (allOf s letB)) ∧ Below w.heap.size w w' := by
  refine enter_args (args := [str s, str letB]) (F := _) Tryz.func189 rfl Tryz.ntmps189 rfl rfl ?_
  intro Rb hRb hRn
  refine T_seq ?_
  refine T_region ?_
  refine S_ 4 rfl rfl rfl _ (y_assign rfl rfl) ?_
  refine S_go (fun _ _ h => h) ?_
  refine T_seq ?_
  refine T_region ?_
  refine S_ 5 rfl rfl rfl _ (y_move rfl rfl) ?_
  refine S_ 6 rfl rfl rfl _ (y_bin rfl rfl rfl (fun _ => b_neqs)) ?_
  refine S_ 7 rfl rfl rfl _ (y_move rfl rfl) ?_
  refine Sg_ 8 rfl rfl rfl rfl rfl rfl _ (y_move rfl rfl) ?_
  refine Sg_ 9 rfl rfl rfl rfl rfl rfl _ (y_move rfl rfl) ?_
  refine Sg_ 10 rfl rfl rfl rfl rfl rfl _ (y_call rfl rfl rfl cf84 (fun _ w _ => TrimLet_any s hs w)) ?_
  refine Sg_ 11 rfl rfl rfl rfl rfl rfl _ (y_bin rfl rfl rfl (fun _ => b_eqls)) ?_
  refine S_ 12 rfl rfl rfl _ (y_and rfl rfl rfl) ?_
  refine S_ 4 rfl rfl rfl _ (y_assign rfl rfl) ?_
  refine S_go (fun _ _ h => h) ?_
  refine T_ret (fun a w hF hM => hRb a w (post1 rfl rfl (fun w hM => ?_) a w hF hM))
  exact ⟨rfl, hM.below⟩
theorem isPre_any (s : List UInt8) (hs : s.length ≤ 1000000000) (w : World) : Calls Tryz.prog 89 #[str s] w fun e w' => e = .returned (.bool (isPreB s)) ∧ Below w.heap.size w w' := by
  refine enter_args (args := [str s]) (F := _) Tryz.func89 rfl Tryz.ntmps89 rfl rfl ?_
  intro Rb hRb hRn
  refine T_seq ?_
  refine T_region ?_
  refine S_ 2 rfl rfl rfl _ (y_assign rfl rfl) ?_
  refine S_go (fun _ _ h => h) ?_
  refine T_seq ?_
  refine T_seq ?_
  refine T_region ?_
  refine S_ 5 rfl rfl rfl _ (y_move rfl rfl) ?_
  refine S_ 6 rfl rfl rfl _ (y_call rfl rfl rfl cf189 (fun _ w _ => allOfD_any s hs w)) ?_
  refine S_go (fun _ _ h => h) ?_
  refine T_cond rfl (fun h6 => ?_) (fun h6 => ?_)
  · skip
    refine T_seq ?_
    refine T_region ?_
    refine S_ 8 rfl rfl rfl _ (y_move rfl rfl) ?_
    refine S_ 9 rfl rfl rfl _ (y_call rfl rfl rfl cf190 (fun _ w _ => number_any s hs w)) ?_
    refine S_ 7 rfl rfl rfl _ (y_move rfl rfl) ?_
    refine S_ 10 rfl rfl rfl _ (y_extract rfl rfl rfl) ?_
    refine S_ 11 rfl rfl rfl _ (y_extract rfl rfl rfl) ?_
    refine S_ 3 rfl rfl rfl _ (y_assign rfl rfl) ?_
    refine S_ 4 rfl rfl rfl _ (y_assign rfl rfl) ?_
    refine S_go (fun _ _ h => h) ?_
    refine T_seq ?_
    refine T_region ?_
    refine S_ 12 rfl rfl rfl _ (y_move rfl rfl) ?_
    refine S_ 2 rfl rfl rfl _ (y_assign rfl rfl) ?_
    refine S_go (fun _ _ h => h) ?_
    refine T_ret (fun a w hF hM => hRb a w (post1 rfl rfl (fun w hM => ?_) a w hF hM))
    exact ⟨by rw [isPreB, if_pos h6]; rfl, hM.below⟩
  · skip
    refine T_skip_go (fun _ _ h => h) ?_
    refine T_seq ?_
    refine T_region ?_
    refine S_ 13 rfl rfl rfl _ (y_move rfl rfl) ?_
    refine S_ 14 rfl rfl rfl _ (y_call rfl rfl rfl cf189 (fun _ w _ => allOfL_any s hs w)) ?_
    refine S_ 2 rfl rfl rfl _ (y_assign rfl rfl) ?_
    refine S_go (fun _ _ h => h) ?_
    refine T_ret (fun a w hF hM => hRb a w (post1 rfl rfl (fun w hM => ?_) a w hF hM))
    exact ⟨by rw [isPreB, if_neg (by simp [h6])], hM.below⟩
theorem parse1_any (s : List UInt8) (hs : s.length ≤ 1000000000) (w : World) : Calls Tryz.prog 200 #[str s] w fun e w' => e = .returned (.bool (!isPreB s)) ∧ Below w.heap.size w w' := by
  refine enter_args (args := [str s]) (F := _) Tryz.func200 rfl Tryz.ntmps200 rfl rfl ?_
  intro Rb hRb hRn
  refine T_seq ?_
  refine T_region ?_
  refine S_ 2 rfl rfl rfl _ (y_assign rfl rfl) ?_
  refine S_go (fun _ _ h => h) ?_
  refine T_seq ?_
  refine T_region ?_
  refine S_ 3 rfl rfl rfl _ (y_move rfl rfl) ?_
  refine S_ 4 rfl rfl rfl _ (y_call rfl rfl rfl cf89 (fun _ w _ => isPre_any s hs w)) ?_
  refine S_ 5 rfl rfl rfl _ (y_not rfl rfl) ?_
  refine S_ 2 rfl rfl rfl _ (y_assign rfl rfl) ?_
  refine S_go (fun _ _ h => h) ?_
  refine T_ret (fun a w hF hM => hRb a w (post1 rfl rfl (fun w hM => ?_) a w hF hM))
  exact ⟨rfl, hM.below⟩
theorem Text1_any (s : List UInt8) (hs : s.length ≤ 1000000000) (w : World) : Calls Tryz.prog 88 #[str s] w fun e w' => e = .returned (.bool (!isPreB s)) ∧ Below w.heap.size w w' := by
  refine enter_args (args := [str s]) (F := _) Tryz.func88 rfl Tryz.ntmps88 rfl rfl ?_
  intro Rb hRb hRn
  refine T_seq ?_
  refine T_region ?_
  refine S_ 2 rfl rfl rfl _ (y_assign rfl rfl) ?_
  refine S_go (fun _ _ h => h) ?_
  refine T_seq ?_
  refine T_region ?_
  refine S_ 3 rfl rfl rfl _ (y_move rfl rfl) ?_
  refine S_ 4 rfl rfl rfl _ (y_call rfl rfl rfl cf89 (fun _ w _ => isPre_any s hs w)) ?_
  refine S_ 5 rfl rfl rfl _ (y_not rfl rfl) ?_
  refine S_ 2 rfl rfl rfl _ (y_assign rfl rfl) ?_
  refine S_go (fun _ _ h => h) ?_
  refine T_ret (fun a w hF hM => hRb a w (post1 rfl rfl (fun w hM => ?_) a w hF hM))
  exact ⟨rfl, hM.below⟩
/-- the first place of what answers yes -/
def findP {α : Type} (p : α → Bool) : List α → Nat → Int
  | [], _ => -1
  | x :: r, i => if p x = true then i else findP p r (i + 1)
theorem findP_any {α : Type} (p : α → Bool) : ∀ (l : List α) (i : Nat), (findP p l i < 0 ↔ l.any p = false) ∧ -1 ≤ findP p l i
  | [], i => ⟨⟨fun _ => rfl, fun _ => by show (-1 : Int) < 0; omega⟩, Int.le_refl _⟩
  | x :: r, i => by
    have h := findP_any p r (i + 1)
    rw [findP, List.any_cons]
    cases hp : p x with
    | true => rw [if_pos rfl]; exact ⟨⟨fun h => by omega, fun h => by cases h⟩, by omega⟩
    | false => rw [if_neg (by simp), Bool.false_or]; exact h
theorem IndexFS_any (A : Option Addr) (q c : Nat) (l : List (List UInt8)) (g : FuncId) (cap : Array Value) (p : List UInt8 → Bool) (w : World) (hl : SlT strE 1 w A q l) (hq : q ≤ 4611686018427387904) (hcf : ∀ args w, (callFunc g args).run Tryz.prog w = .ok (.enter g args) w)
    (hA : ∀ x ∈ l, ∀ w', Below w.heap.size w w' → Calls Tryz.prog g (#[str x] ++ cap) w' fun e w'' => e = .returned (.bool (p x)) ∧ Below w'.heap.size w' w'') :
    Calls Tryz.prog 36 #[.slice A q c, .func (.func g) #[] cap] w fun e w' => e = .returned (.int .i64 (findP p l 0)) ∧ Below w.heap.size w w' := by
  refine enter_args (args := [.slice A q c, .func (.func g) #[] cap]) (F := _) Tryz.func36 rfl Tryz.ntmps36 rfl rfl ?_
  intro Rb hRb hRn
  refine T_seq ?_
  refine T_region ?_
  refine S_ 4 rfl rfl rfl _ (y_assign rfl rfl) ?_
  refine S_go (fun _ _ h => h) ?_
  refine T_seq ?_
  refine T_seq ?_
  refine T_region ?_
  refine S_ 6 rfl rfl rfl _ (y_move rfl rfl) ?_
  refine S_ 7 rfl rfl rfl _ (y_len_slice rfl rfl Tryz.underlying40) ?_
  refine S_ 8 rfl rfl rfl _ (y_move rfl rfl) ?_
  refine S_go (fun _ _ h => h) ?_
  refine T_block ?_
  refine T_loopK1 (kf := [(4, 5), (8, 18)]) (kl := [(4, 5), (8, 18)]) (fun (i : Nat) => [(8, true, .int .i64 (i : Int))]) (fun (i : Nat) => []) (fun (i : Nat) => i ≤ q ∧ findP p l 0 = findP p (l.drop i) i) (fun (i : Nat) => q - i) 0 (by repeat (first | exact kf_nil | (apply kf_in; focus rfl) | (apply kf_out; focus rfl))) (by repeat (first | exact kl_nil | exact kl_rest (by assumption) rfl | (apply kl_in; focus rfl) | (apply kl_out; focus rfl))) ?_ ?_ ?_ ?_
  · exact ⟨by omega, rfl⟩
  · exact ⟨rfl, trivial⟩
  · exact trivial
  rintro i ⟨hp1, hp2⟩
  refine T_seq ?_
  refine T_region ?_
  refine S_ 9 rfl rfl rfl _ (y_bin rfl rfl rfl (fun _ => b_lss)) ?_
  refine S_go (fun _ _ h => h) ?_
  refine T_seq ?_
  refine T_cond rfl (fun h9 => ?_) (fun h9 => ?_)
  · try simp only [decide_eq_true_eq, decide_eq_false_iff_not, Bool.or_eq_true, Bool.or_eq_false_iff, Bool.and_eq_true, Bool.and_eq_false_iff, Bool.not_eq_true', Bool.not_eq_false', Bool.not_eq_true, Bool.not_eq_false, Bool.not_true, Bool.not_false, Int.not_lt, Int.not_le, not_or, not_and, Classical.not_not] at h9
    obtain ⟨x, hx1, hx2⟩ := hl.at (i := i) (by omega)
    refine T_skip_go (fun _ _ h => h) ?_
    refine T_seq ?_
    refine T_block ?_
    refine T_seq ?_
    refine T_region ?_
    refine S_ 10 rfl rfl rfl _ (y_move rfl rfl) ?_
    refine S_ 5 rfl rfl rfl _ (y_assign rfl rfl) ?_
    refine S_go (fun _ _ h => h) ?_
    refine T_seq ?_
    refine T_region ?_
    refine S_ 11 rfl rfl rfl _ (y_move rfl rfl) ?_
    refine S_ 12 rfl rfl rfl _ (y_move rfl rfl) ?_
    refine S_ 13 rfl rfl rfl _ (y_move rfl rfl) ?_
    refine S_ 14 rfl rfl rfl _ (y_indexAddr rfl rfl rfl Tryz.underlying40 sz9 (fun hg => hl.isSome (by omega)) (fun _ => by omega)) ?_
    refine S_ 15 rfl rfl rfl _ (y_loadT1 (val := (fun l : List UInt8 => str l)) rfl rfl hl (fun _ => hx1) Tryz.underlying9 rfl) ?_
    refine S_ 16 rfl rfl rfl _ (y_call rfl rfl rfl hcf (fun _ w hM => hA x (mem_at hx1) w hM.below)) ?_
    refine S_go (fun _ _ h => h) ?_
    refine T_cond rfl (fun h16 => ?_) (fun h16 => ?_)
    · skip
      refine T_seq ?_
      refine T_region ?_
      refine S_ 17 rfl rfl rfl _ (y_move rfl rfl) ?_
      refine S_ 4 rfl rfl rfl _ (y_assign rfl rfl) ?_
      refine S_go (fun _ _ h => h) ?_
      refine T_ret (fun a w hF hM => hRb a w (post1 rfl rfl (fun w hM => ?_) a w hF hM))
      exact ⟨by rw [hp2, hx2, findP, if_pos h16], hM.below⟩
    · skip
      refine T_skip_go (fun _ _ h => h) ?_
      refine T_region ?_
      refine S_ 18 rfl rfl rfl _ (y_bin rfl rfl rfl (fun hg => b_add (by omega))) ?_
      refine S_ 8 rfl rfl rfl _ (y_move rfl rfl) ?_
      refine S_nil (nextK1 (kf := [(4, 5), (8, 18)]) (kl := [(4, 5), (8, 18)]) (i + 1) (by repeat (first | exact kf_nil | (apply kf_in; focus rfl) | (apply kf_out; focus rfl))) (by repeat (first | exact kl_nil | exact kl_rest (by assumption) rfl | (apply kl_in; focus rfl) | (apply kl_out; focus rfl))) ?_ ?_ ?_ ?_)
      · omega
      · exact ⟨by omega, by rw [hp2, hx2, findP, if_neg (by simp [h16])]⟩
      · exact ⟨rfl, trivial⟩
      · exact trivial
  · try simp only [decide_eq_true_eq, decide_eq_false_iff_not, Bool.or_eq_true, Bool.or_eq_false_iff, Bool.and_eq_true, Bool.and_eq_false_iff, Bool.not_eq_true', Bool.not_eq_false', Bool.not_eq_true, Bool.not_eq_false, Bool.not_true, Bool.not_false, Int.not_lt, Int.not_le, not_or, not_and, Classical.not_not] at h9
    refine T_exit_go (fun _ _ h => h) ?_
    refine T_seq ?_
    refine T_region ?_
    refine S_ 4 rfl rfl rfl _ (y_assign rfl rfl) ?_
    refine S_go (fun _ _ h => h) ?_
    refine T_ret (fun a w hF hM => hRb a w (post1 rfl rfl (fun w hM => ?_) a w hF hM))
    exact ⟨by rw [hp2, hl.end (by omega)]; rfl, hM.below⟩
theorem ContFS_any (A : Option Addr) (q c : Nat) (l : List (List UInt8)) (g : FuncId) (cap : Array Value) (p : List UInt8 → Bool) (w : World) (hl : SlT strE 1 w A q l) (hq : q ≤ 4611686018427387904) (hcf : ∀ args w, (callFunc g args).run Tryz.prog w = .ok (.enter g args) w)
    (hA : ∀ x ∈ l, ∀ w', Below w.heap.size w w' → Calls Tryz.prog g (#[str x] ++ cap) w' fun e w'' => e = .returned (.bool (p x)) ∧ Below w'.heap.size w' w'') :
    Calls Tryz.prog 38 #[.slice A q c, .func (.func g) #[] cap] w fun e w' => e = .returned (.bool (l.any p)) ∧ Below w.heap.size w w' := by
  have hf := findP_any p l 0
  have e : l.any p = decide (0 ≤ findP p l 0) := by
    cases h : l.any p with
    | false => rw [decide_eq_false]; have := hf.1.2 h; omega
    | true => rw [decide_eq_true]; rcases Int.lt_or_le (findP p l 0) 0 with h1 | h1
              · rw [hf.1.1 h1] at h; cases h
              · exact h1
  rw [e]
  refine enter_args (args := [.slice A q c, .func (.func g) #[] cap]) (F := _) Tryz.func38 rfl Tryz.ntmps38 rfl rfl ?_
  intro Rb hRb hRn
  refine T_seq ?_
  refine T_region ?_
  refine S_ 4 rfl rfl rfl _ (y_assign rfl rfl) ?_
  refine S_go (fun _ _ h => h) ?_
  refine T_seq ?_
  refine T_region ?_
  refine S_ 5 rfl rfl rfl _ (y_move rfl rfl) ?_
  refine S_ 6 rfl rfl rfl _ (y_move rfl rfl) ?_
  refine S_ 7 rfl rfl rfl _ (y_call rfl rfl rfl cf36 (fun _ w hM => IndexFS_any _ _ _ l g cap p w (hl.below hM.below) hq hcf fun x hx w1 hb => hA x hx w1 (hM.below.trans (hb.mono hM.below.size)))) ?_
  refine S_ 8 rfl rfl rfl _ (y_bin rfl rfl rfl (fun _ => b_geq)) ?_
  refine S_ 4 rfl rfl rfl _ (y_assign rfl rfl) ?_
  refine S_go (fun _ _ h => h) ?_
  refine T_ret (fun a w hF hM => hRb a w (post1 rfl rfl (fun w hM => ?_) a w hF hM))
  exact ⟨rfl, hM.below⟩
abbrev pvV (p : PVer) (A : Option Addr) (c : Nat) : Value := .agg #[str p.p, .int .i64 p.a, .int .i64 p.b, .int .i64 p.c, .slice A p.pre.length c]
theorem split_len40 {c : UInt8} {s : List UInt8} (h : s.length ≤ 40) : (splitC c s).length ≤ 41 := by
  have h1 := splitC_len c s
  have h2 : s.count c ≤ s.length := List.count_le_length
  omega
set_option maxHeartbeats 1600000 in
theorem parse_any (s : List UInt8) (w : World) :
    Calls Tryz.prog 101 #[str s] w fun e w' => ∃ A c, e = .returned (.tuple #[pvV (parseR s).1 A c, .bool (parseR s).2]) ∧ w'.ownsRow w.heap.size 9 1 (.slice A (parseR s).1.pre.length c) (parseR s).1.pre.length ((parseR s).1.pre.flatMap strE) ∧ Below w.heap.size w w' := by
  have hge := Lib.indexByte_ge s 46
  refine enter_args (args := [str s]) (F := _) Tryz.func101 rfl Tryz.ntmps101 rfl rfl ?_
  intro Rb hRb hRn
  refine T_seq ?_
  refine T_region ?_
  refine S_alloc 2 2 rfl rfl rfl rfl z42 ?_
  intro b2
  refine S_ 3 rfl rfl rfl _ (y_assign rfl rfl) ?_
  refine S_go (fun _ _ h => h) ?_
  refine T_seq ?_
  refine T_region ?_
  refine S_ 18 rfl rfl rfl _ (y_move rfl rfl) ?_
  refine S_ 19 rfl rfl rfl _ (y_call rfl rfl rfl cf102 (fun _ w _ => IndexByte_any s 46 w)) ?_
  refine S_ 4 rfl rfl rfl _ (y_assign rfl rfl) ?_
  refine S_go (fun _ _ h => h) ?_
  refine T_seq ?_
  refine T_seq ?_
  refine T_region ?_
  refine S_ 20 rfl rfl rfl _ (y_move rfl rfl) ?_
  refine S_ 21 rfl rfl rfl _ (y_bin rfl rfl rfl (fun _ => b_lss)) ?_
  refine S_ 22 rfl rfl rfl _ (y_move rfl rfl) ?_
  refine Sg_ 23 rfl rfl rfl rfl rfl rfl _ (y_move rfl rfl) ?_
  refine Sg_ 24 rfl rfl rfl rfl rfl rfl _ (y_len_str rfl rfl Tryz.underlying9) ?_
  refine Sg_ 25 rfl rfl rfl rfl rfl rfl _ (y_bin rfl rfl rfl (fun _ => b_gtr)) ?_
  refine S_ 26 rfl rfl rfl _ (y_or rfl rfl rfl) ?_
  refine S_go (fun _ _ h => h) ?_
  refine T_cond rfl (fun h26 => ?_) (fun h26 => ?_)
  · skip
    have hr : parseR s = (pver0, false) := by rw [parseR, if_pos h26]
    refine T_seq ?_
    refine T_region ?_
    refine S_ 27 rfl rfl rfl _ (y_build (zv := .agg #[.string ⟨#[]⟩, .int .i64 0, .int .i64 0, .int .i64 0, .slice none 0 0]) (pl := [(0, 1), (1, 1), (2, 1), (3, 1), (4, 1)]) (out := [.string ⟨#[]⟩, .int .i64 0, .int .i64 0, .int .i64 0, .slice none 0 0]) rfl rfl Tryz.underlying42 z42 (by kernel_rfl) rfl) ?_
    refine S_store 2 rfl rfl rfl rfl rfl rfl sz42 rfl rfl ?_
    refine S_ 3 rfl rfl rfl _ (y_assign rfl rfl) ?_
    refine S_go (fun _ _ h => h) ?_
    refine T_ret (fun a w hF hM => hRb a w (post_cell 2 rfl rfl rfl rfl Tryz.underlying42 rfl (by exact sz42) (fun w hM => ?_) a w hF hM))
    rw [hr]
    exact ⟨none, 0, rfl, World.ownsRow_nil _ _ _ _, hM.below⟩
  · skip
    simp only [Bool.or_eq_false_iff, decide_eq_false_iff_not] at h26
    obtain ⟨o, ho⟩ : ∃ o : Nat, Lib.indexByte s 46 = o := ⟨(Lib.indexByte s 46).toNat, by omega⟩
    obtain ⟨ho1, _⟩ := Lib.indexByte_some ho
    have hol := (List.getElem?_eq_some_iff.1 ho1).1
    have hpt : ptN s = o := by rw [ptN, ho]; rfl
    have hpl : (s.take (ptN s)).length = o := by rw [hpt, List.length_take]; omega
    have hlb : lnI s < o ∧ -1 ≤ lnI s := by
      rcases last_spec (s.take (ptN s)) 45 (s.take (ptN s)).length with ⟨h1, _⟩ | ⟨k, h1, h2, _⟩
      · have h1 : lnI s = -1 := h1
        omega
      · have h1 : lnI s = k := h1
        omega
    refine T_skip_go (fun _ _ h => h) ?_
    refine T_seq ?_
    refine T_region ?_
    refine S_ 28 rfl rfl rfl _ (y_move rfl rfl) ?_
    refine S_ 29 rfl rfl rfl _ (y_move rfl rfl) ?_
    refine S_ 30 rfl rfl rfl _ (y_as (v' := str (s.take (ptN s))) (by exact rfl) (y_strTo rfl rfl rfl Tryz.underlying9 (fun _ => by omega))) ?_
    refine S_ 31 rfl rfl rfl _ (y_as (v' := .int .i64 (lnI s)) (by exact rfl) (y_call rfl rfl rfl cf103 (fun _ w _ => SLast_any (s.take (ptN s)) 45 (by rw [List.length_take]; omega) w))) ?_
    refine S_ 5 rfl rfl rfl _ (y_assign rfl rfl) ?_
    refine S_go (fun _ _ h => h) ?_
    refine T_seq ?_
    refine T_seq ?_
    refine T_region ?_
    refine S_ 32 rfl rfl rfl _ (y_move rfl rfl) ?_
    refine S_ 33 rfl rfl rfl _ (y_bin rfl rfl rfl (fun _ => b_lss)) ?_
    refine S_ 34 rfl rfl rfl _ (y_move rfl rfl) ?_
    refine Sg_ 35 rfl rfl rfl rfl rfl rfl _ (y_move rfl rfl) ?_
    refine Sg_ 36 rfl rfl rfl rfl rfl rfl _ (y_move rfl rfl) ?_
    refine Sg_ 37 rfl rfl rfl rfl rfl rfl _ (y_as (v' := str (prS s)) (by exact rfl) (y_strTo rfl rfl rfl Tryz.underlying9 (fun hg => by simp only [Bool.true_and, Bool.and_eq_true, beq_iff_eq, decide_eq_true_eq, decide_eq_false_iff_not, Int.not_lt, Int.not_le] at hg; omega))) ?_
    refine Sg_ 38 rfl rfl rfl rfl rfl rfl _ (y_call rfl rfl rfl cf86 (fun _ w _ => IsProject_any (prS s) w)) ?_
    refine Sg_ 39 rfl rfl rfl rfl rfl rfl _ (y_not rfl rfl) ?_
    refine S_ 40 rfl rfl rfl _ (y_or rfl rfl rfl) ?_
    refine S_go (fun _ _ h => h) ?_
    refine T_cond rfl (fun h40 => ?_) (fun h40 => ?_)
    · skip
      have hr : parseR s = (pver0, false) := by rw [parseR, if_neg (by simp only [Bool.or_eq_true, decide_eq_true_eq, not_or]; omega), if_pos h40]
      refine T_seq ?_
      refine T_region ?_
      refine S_ 41 rfl rfl rfl _ (y_build (zv := .agg #[.string ⟨#[]⟩, .int .i64 0, .int .i64 0, .int .i64 0, .slice none 0 0]) (pl := [(0, 1), (1, 1), (2, 1), (3, 1), (4, 1)]) (out := [.string ⟨#[]⟩, .int .i64 0, .int .i64 0, .int .i64 0, .slice none 0 0]) rfl rfl Tryz.underlying42 z42 (by kernel_rfl) rfl) ?_
      refine S_store 2 rfl rfl rfl rfl rfl rfl sz42 rfl rfl ?_
      refine S_ 3 rfl rfl rfl _ (y_assign rfl rfl) ?_
      refine S_go (fun _ _ h => h) ?_
      refine T_ret (fun a w hF hM => hRb a w (post_cell 2 rfl rfl rfl rfl Tryz.underlying42 rfl (by exact sz42) (fun w hM => ?_) a w hF hM))
      rw [hr]
      exact ⟨none, 0, rfl, World.ownsRow_nil _ _ _ _, hM.below⟩
    · skip
      have h40b := h40
      simp only [Bool.or_eq_false_iff, decide_eq_false_iff_not] at h40
      obtain ⟨k, hk⟩ : ∃ k : Nat, lnI s = k := ⟨(lnI s).toNat, by omega⟩
      have hrl : (rsS s).length ≤ 40 := by rw [rsS, List.length_drop]; omega
      obtain ⟨hc1, hc2⟩ : (cutC 45 (rsS s)).1.length ≤ 40 ∧ (cutC 45 (rsS s)).2.1.length ≤ 40 := by have := cut_le 45 (rsS s); omega
      have hwl : (wdS s).length ≤ 41 := split_len40 hc1
      have hql : (splitC 46 (cutC 45 (rsS s)).2.1).length ≤ 41 := split_len40 hc2
      refine T_skip_go (fun _ _ h => h) ?_
      refine T_seq ?_
      refine T_region ?_
      refine S_ 42 rfl rfl rfl _ (y_move rfl rfl) ?_
      refine S_ 43 rfl rfl rfl _ (y_move rfl rfl) ?_
      refine S_ 44 rfl rfl rfl _ (y_as (v' := str (prS s)) (by exact rfl) (y_strTo rfl rfl rfl Tryz.underlying9 (fun _ => by omega))) ?_
      refine S_ 45 rfl rfl rfl _ (y_build (zv := .agg #[.string ⟨#[]⟩, .int .i64 0, .int .i64 0, .int .i64 0, .slice none 0 0]) (pl := [(0, 1), (1, 1), (2, 1), (3, 1), (4, 1)]) (out := [_, .int .i64 0, .int .i64 0, .int .i64 0, .slice none 0 0]) rfl rfl Tryz.underlying42 z42 (by kernel_rfl) rfl) ?_
      refine S_alloc 6 6 rfl rfl rfl rfl z42 ?_
      intro b6
      refine S_store 6 rfl rfl rfl rfl rfl rfl sz42 rfl rfl ?_
      refine S_go (fun _ _ h => h) ?_
      refine T_seq ?_
      refine T_region ?_
      refine S_ 47 rfl rfl rfl _ (y_move rfl rfl) ?_
      refine S_ 48 rfl rfl rfl _ (y_move rfl rfl) ?_
      refine S_ 49 rfl rfl rfl _ (y_bin rfl rfl rfl (fun hg => b_add (by omega))) ?_
      refine S_ 50 rfl rfl rfl _ (y_as (v' := str (rsS s)) (by rw [rsS, hk]; rfl) (y_strFrom rfl rfl rfl Tryz.underlying9 (fun _ => by omega))) ?_
      refine S_ 51 rfl rfl rfl _ (y_call rfl rfl rfl cf104 (fun _ w _ => Cut1_any (rsS s) 45 w (by omega))) ?_
      refine S_ 46 rfl rfl rfl _ (y_move rfl rfl) ?_
      refine S_ 52 rfl rfl rfl _ (y_extract rfl rfl rfl) ?_
      refine S_ 53 rfl rfl rfl _ (y_extract rfl rfl rfl) ?_
      refine S_ 54 rfl rfl rfl _ (y_extract rfl rfl rfl) ?_
      refine S_ 7 rfl rfl rfl _ (y_assign rfl rfl) ?_
      refine S_ 8 rfl rfl rfl _ (y_assign rfl rfl) ?_
      refine S_ 9 rfl rfl rfl _ (y_assign rfl rfl) ?_
      refine S_go (fun _ _ h => h) ?_
      refine T_seq ?_
      refine T_region ?_
      refine S_ 55 rfl rfl rfl _ (y_move rfl rfl) ?_
      refine S_callOwn 56 56 rfl rfl rfl rfl rfl rfl rfl cf105 (fun A c => .slice A ((wdS s).length) c) 9 1 ((wdS s).length) ((wdS s).flatMap strE) (fun w hM => Split1_any (cutC 45 (rsS s)).1 46 (by omega) w) ?_
      intro A56 c56
      refine S_ 10 rfl rfl rfl _ (y_assign rfl rfl) ?_
      refine S_go (fun _ _ h => h) ?_
      refine T_seq ?_
      refine T_seq ?_
      refine T_region ?_
      refine S_ 57 rfl rfl rfl _ (y_move rfl rfl) ?_
      refine S_ 58 rfl rfl rfl _ (y_len_slice rfl rfl Tryz.underlying40) ?_
      refine S_ 59 rfl rfl rfl _ (y_bin rfl rfl rfl (fun _ => b_neq)) ?_
      refine S_go (fun _ _ h => h) ?_
      refine T_cond rfl (fun h59 => ?_) (fun h59 => ?_)
      · skip
        have hr : parseR s = (pver0, false) := by rw [parseR, if_neg (by simp only [Bool.or_eq_true, decide_eq_true_eq, not_or]; omega), if_neg (by rw [h40b]; exact Bool.false_ne_true), if_pos (by simpa using h59)]
        refine T_seq ?_
        refine T_region ?_
        refine S_ 60 rfl rfl rfl _ (y_build (zv := .agg #[.string ⟨#[]⟩, .int .i64 0, .int .i64 0, .int .i64 0, .slice none 0 0]) (pl := [(0, 1), (1, 1), (2, 1), (3, 1), (4, 1)]) (out := [.string ⟨#[]⟩, .int .i64 0, .int .i64 0, .int .i64 0, .slice none 0 0]) rfl rfl Tryz.underlying42 z42 (by kernel_rfl) rfl) ?_
        refine S_store 2 rfl rfl rfl rfl rfl rfl sz42 rfl rfl ?_
        refine S_ 3 rfl rfl rfl _ (y_assign rfl rfl) ?_
        refine S_go (fun _ _ h => h) ?_
        refine T_ret (fun a w hF hM => hRb a w (post_cell 2 rfl rfl rfl rfl Tryz.underlying42 rfl (by exact sz42) (fun w hM => ?_) a w hF hM))
        rw [hr]
        exact ⟨none, 0, rfl, World.ownsRow_nil _ _ _ _, hM.below⟩
      · skip
        have h59 : ((wdS s).length : Int) = 3 := by simpa using h59
        obtain ⟨x, y, z, hw⟩ := triple (l := wdS s) (by omega)
        have hwle : ∀ u ∈ wdS s, u.length ≤ 40 := fun u hu => by have := spl_le 46 _ u hu; omega
        have hx := hwle x (by rw [hw]; simp)
        have hy := hwle y (by rw [hw]; simp)
        have hz := hwle z (by rw [hw]; simp)
        refine T_skip_go (fun _ _ h => h) ?_
        refine T_seq ?_
        refine T_region ?_
        refine S_ 62 rfl rfl rfl _ (y_move rfl rfl) ?_
        refine S_ 63 rfl rfl rfl _ (y_indexOwnI (j := 0) 56 rfl rfl rfl (fun _ => rfl) rfl Tryz.underlying40 sz9 (fun _ => by omega)) ?_
        refine S_ 64 rfl rfl rfl _ (y_loadO1 56 (val := (fun l : List UInt8 => str l)) rfl rfl rfl rfl (fun _ => (by rw [hw]; rfl : (wdS s)[0]? = some x)) Tryz.underlying9 rfl) ?_
        refine S_ 65 rfl rfl rfl _ (y_as (v' := .tuple #[.int .i64 (numI x), .bool (numOk x)]) (by exact rfl) (y_call rfl rfl rfl cf190 (fun _ w _ => number_any x (by omega) w))) ?_
        refine S_ 61 rfl rfl rfl _ (y_move rfl rfl) ?_
        refine S_ 66 rfl rfl rfl _ (y_extract rfl rfl rfl) ?_
        refine S_ 67 rfl rfl rfl _ (y_extract rfl rfl rfl) ?_
        refine S_ 11 rfl rfl rfl _ (y_assign rfl rfl) ?_
        refine S_ 12 rfl rfl rfl _ (y_assign rfl rfl) ?_
        refine S_go (fun _ _ h => h) ?_
        refine T_seq ?_
        refine T_region ?_
        refine S_ 69 rfl rfl rfl _ (y_move rfl rfl) ?_
        refine S_ 70 rfl rfl rfl _ (y_indexOwnI (j := 1) 56 rfl rfl rfl (fun _ => rfl) rfl Tryz.underlying40 sz9 (fun _ => by omega)) ?_
        refine S_ 71 rfl rfl rfl _ (y_loadO1 56 (val := (fun l : List UInt8 => str l)) rfl rfl rfl rfl (fun _ => (by rw [hw]; rfl : (wdS s)[1]? = some y)) Tryz.underlying9 rfl) ?_
        refine S_ 72 rfl rfl rfl _ (y_as (v' := .tuple #[.int .i64 (numI y), .bool (numOk y)]) (by exact rfl) (y_call rfl rfl rfl cf190 (fun _ w _ => number_any y (by omega) w))) ?_
        refine S_ 68 rfl rfl rfl _ (y_move rfl rfl) ?_
        refine S_ 73 rfl rfl rfl _ (y_extract rfl rfl rfl) ?_
        refine S_ 74 rfl rfl rfl _ (y_extract rfl rfl rfl) ?_
        refine S_ 13 rfl rfl rfl _ (y_assign rfl rfl) ?_
        refine S_ 14 rfl rfl rfl _ (y_assign rfl rfl) ?_
        refine S_go (fun _ _ h => h) ?_
        refine T_seq ?_
        refine T_region ?_
        refine S_ 76 rfl rfl rfl _ (y_move rfl rfl) ?_
        refine S_ 77 rfl rfl rfl _ (y_indexOwnI (j := 2) 56 rfl rfl rfl (fun _ => rfl) rfl Tryz.underlying40 sz9 (fun _ => by omega)) ?_
        refine S_ 78 rfl rfl rfl _ (y_loadO1 56 (val := (fun l : List UInt8 => str l)) rfl rfl rfl rfl (fun _ => (by rw [hw]; rfl : (wdS s)[2]? = some z)) Tryz.underlying9 rfl) ?_
        refine S_ 79 rfl rfl rfl _ (y_as (v' := .tuple #[.int .i64 (numI z), .bool (numOk z)]) (by exact rfl) (y_call rfl rfl rfl cf190 (fun _ w _ => number_any z (by omega) w))) ?_
        refine S_ 75 rfl rfl rfl _ (y_move rfl rfl) ?_
        refine S_ 80 rfl rfl rfl _ (y_extract rfl rfl rfl) ?_
        refine S_ 81 rfl rfl rfl _ (y_extract rfl rfl rfl) ?_
        refine S_ 15 rfl rfl rfl _ (y_assign rfl rfl) ?_
        refine S_ 16 rfl rfl rfl _ (y_assign rfl rfl) ?_
        refine S_go (fun _ _ h => h) ?_
        refine T_seq ?_
        refine T_region ?_
        refine S_ 82 rfl rfl rfl _ (y_move rfl rfl) ?_
        refine S_ 83 rfl rfl rfl _ (y_move rfl rfl) ?_
        refine S_ 84 rfl rfl rfl _ (y_move rfl rfl) ?_
        refine S_ 85 rfl rfl rfl _ (y_fieldAddr rfl rfl fa42_1) ?_
        refine S_store 6 rfl rfl rfl rfl rfl rfl sz3 rfl rfl ?_
        refine S_ 86 rfl rfl rfl _ (y_fieldAddr rfl rfl fa42_2) ?_
        refine S_store 6 rfl rfl rfl rfl rfl rfl sz3 rfl rfl ?_
        refine S_ 87 rfl rfl rfl _ (y_fieldAddr rfl rfl fa42_3) ?_
        refine S_store 6 rfl rfl rfl rfl rfl rfl sz3 rfl rfl ?_
        refine S_go (fun _ _ h => h) ?_
        refine T_seq ?_
        refine T_seq ?_
        refine T_region ?_
        refine S_ 88 rfl rfl rfl _ (y_move rfl rfl) ?_
        refine S_go (fun _ _ h => h) ?_
        refine T_cond rfl (fun h88 => ?_) (fun h88 => ?_)
        · skip
          have hpre : preS s = splitC 46 (cutC 45 (rsS s)).2.1 := by rw [preS, if_pos h88]
          refine T_region ?_
          refine S_ 89 rfl rfl rfl _ (y_move rfl rfl) ?_
          refine S_callOwn 90 90 rfl rfl rfl rfl rfl rfl rfl cf105 (fun A c => .slice A (splitC 46 (cutC 45 (rsS s)).2.1).length c) 9 1 ((splitC 46 (cutC 45 (rsS s)).2.1).length) ((splitC 46 (cutC 45 (rsS s)).2.1).flatMap strE) (fun w hM => Split1_any (cutC 45 (rsS s)).2.1 46 (by omega) w) ?_
          intro A90 c90
          refine S_ 91 rfl rfl rfl _ (y_fieldAddr rfl rfl fa42_4) ?_
          refine S_store 6 rfl rfl rfl rfl rfl rfl sz40 rfl rfl ?_
          refine S_go (fun _ _ h => h) ?_
          refine T_seq ?_
          refine T_region ?_
          refine S_ 92 rfl rfl rfl _ (y_fieldAddr rfl rfl fa42_4) ?_
          refine S_ 93 rfl rfl rfl _ (y_load 6 rfl rfl rfl rfl Tryz.underlying40 rfl) ?_
          refine S_ 94 rfl rfl rfl _ (y_call rfl rfl rfl cf38 (fun _ w hM => ContFS_any _ _ _ (splitC 46 (cutC 45 (rsS s)).2.1) _ _ (fun p => !isPreB p) w (owned_T (enc := strE) hM rfl (i := 90) rfl) (by omega) cf200 fun x hx w1 _ => parse1_any x (by have := spl_le 46 _ x hx; omega) w1)) ?_
          refine S_ 17 rfl rfl rfl _ (y_assign rfl rfl) ?_
          refine S_go (fun _ _ h => h) ?_
          refine T_seq ?_
          refine T_perm [0, 1, 2, 3, 4, 5, 6, 7, 8, 9, 10, 11, 12, 13, 14, 15, 16, 17, 18, 19] [true, true, true, true, true, true, true, true, true, true, true, true, true, true, true, true, true, true, false, true] [0, 0, 2, 6, 14, 30, 62, 126, 254, 510, 1022, 2046, 4094, 8190, 16382, 32766, 65534, 131070, 8191, 524287] [(0, [6]), (14, [6])] (by kernel_rfl) (by kernel_rfl) (by kernel_rfl) rfl (by kernel_rfl) ?_
          refine Rf_ 0 95 rfl rfl rfl rfl rfl _ ⟨rfl, trivial⟩ (Y.z (y_loadA 6 rfl rfl rfl Tryz.underlying42 rfl sz42) rfl) ?_
          refine Rf_ 1 96 rfl rfl rfl rfl rfl _ trivial (Y.z (y_move rfl rfl) rfl) ?_
          refine Rf_ 2 97 rfl rfl rfl rfl rfl _ trivial (Y.z (y_move rfl rfl) rfl) ?_
          refine Rfg_ 3 98 rfl rfl rfl rfl rfl rfl rfl rfl _ trivial (Y.z (y_move rfl rfl) rfl) ?_
          refine Rf_ 4 99 rfl rfl rfl rfl rfl _ trivial (Y.z (y_and rfl rfl rfl) rfl) ?_
          refine Rf_ 5 100 rfl rfl rfl rfl rfl _ trivial (Y.z (y_move rfl rfl) rfl) ?_
          refine Rfg_ 6 101 rfl rfl rfl rfl rfl rfl rfl rfl _ trivial (Y.z (y_move rfl rfl) rfl) ?_
          refine Rf_ 7 102 rfl rfl rfl rfl rfl _ trivial (Y.z (y_and rfl rfl rfl) rfl) ?_
          refine Rf_ 8 103 rfl rfl rfl rfl rfl _ trivial (Y.z (y_move rfl rfl) rfl) ?_
          refine Rfg_ 9 104 rfl rfl rfl rfl rfl rfl rfl rfl _ trivial (Y.z (y_move rfl rfl) rfl) ?_
          refine Rfg_ 10 105 rfl rfl rfl rfl rfl rfl rfl rfl _ trivial (Y.z (y_not rfl rfl) rfl) ?_
          refine Rf_ 11 106 rfl rfl rfl rfl rfl _ trivial (Y.z (y_and rfl rfl rfl) rfl) ?_
          refine Rf_ 12 107 rfl rfl rfl rfl rfl _ trivial (Y.z (y_move rfl rfl) rfl) ?_
          refine Rfg_ 13 108 rfl rfl rfl rfl rfl rfl rfl rfl _ trivial (Y.z (y_fieldAddr rfl rfl fa42_4) rfl) ?_
          refine Rfg_ 14 109 rfl rfl rfl rfl rfl rfl rfl rfl _ ⟨rfl, trivial⟩ (Y.z (y_load 6 rfl rfl rfl rfl Tryz.underlying40 rfl) rfl) ?_
          refine Rfg_ 15 110 rfl rfl rfl rfl rfl rfl rfl rfl _ trivial (zg_len rfl rfl Tryz.underlying40) ?_
          refine Rfg_ 16 111 rfl rfl rfl rfl rfl rfl rfl rfl _ trivial (Y.z (y_bin rfl rfl rfl (fun _ => b_leq)) rfl) ?_
          refine Rf_ 17 112 rfl rfl rfl rfl rfl _ trivial (Y.z (y_and rfl rfl rfl) rfl) ?_
          refine R_chain 18 rfl rfl ?_
          refine S_store 2 rfl rfl rfl rfl rfl rfl sz42 rfl rfl ?_
          refine R_next ⟨.inl rfl, .inr ⟨rfl, trivial⟩, trivial⟩ ?_
          refine Rf_ 19 3 rfl rfl rfl rfl rfl _ trivial (Y.z (y_assign rfl rfl) rfl) ?_
          refine R_go (fun _ _ h => h) ?_
          refine T_ret (fun a w hF hM => hRb a w (post_cell 2 rfl rfl rfl rfl Tryz.underlying42 rfl (by exact sz42) (fun w hM => ?_) a w hF hM))
          have hr : parseR s = (⟨prS s, numI x, numI y, numI z, splitC 46 (cutC 45 (rsS s)).2.1⟩, numOk x && numOk y && numOk z && !badPre (splitC 46 (cutC 45 (rsS s)).2.1) && decide (((splitC 46 (cutC 45 (rsS s)).2.1).length : Int) ≤ 5)) := by
            rw [parseR, if_neg (by simp only [Bool.or_eq_true, decide_eq_true_eq, not_or]; omega), if_neg (by rw [h40b]; exact Bool.false_ne_true), if_neg (by omega), verV, parseOk, hw, hpre]; rfl
          rw [hr]
          exact ⟨A90, c90, rfl, hM.sat 90 _ rfl, hM.below⟩
        · skip
          have hpre : preS s = [] := by rw [preS, if_neg (by simp [h88])]
          refine T_skip_go (fun _ _ h => h) ?_
          refine T_seq ?_
          refine T_region ?_
          refine S_ 92 rfl rfl rfl _ (y_fieldAddr rfl rfl fa42_4) ?_
          refine S_ 93 rfl rfl rfl _ (y_load 6 rfl rfl rfl rfl Tryz.underlying40 rfl) ?_
          refine S_ 94 rfl rfl rfl _ (y_call rfl rfl rfl cf38 (fun _ w hM => ContFS_any _ _ _ [] _ _ (fun p => !isPreB p) w nilS (by decide) cf200 fun x hx => by cases hx)) ?_
          refine S_ 17 rfl rfl rfl _ (y_assign rfl rfl) ?_
          refine S_go (fun _ _ h => h) ?_
          refine T_seq ?_
          refine T_perm [0, 1, 2, 3, 4, 5, 6, 7, 8, 9, 10, 11, 12, 13, 14, 15, 16, 17, 18, 19] [true, true, true, true, true, true, true, true, true, true, true, true, true, true, true, true, true, true, false, true] [0, 0, 2, 6, 14, 30, 62, 126, 254, 510, 1022, 2046, 4094, 8190, 16382, 32766, 65534, 131070, 8191, 524287] [(0, [6]), (14, [6])] (by kernel_rfl) (by kernel_rfl) (by kernel_rfl) rfl (by kernel_rfl) ?_
          refine Rf_ 0 95 rfl rfl rfl rfl rfl _ ⟨rfl, trivial⟩ (Y.z (y_loadA 6 rfl rfl rfl Tryz.underlying42 rfl sz42) rfl) ?_
          refine Rf_ 1 96 rfl rfl rfl rfl rfl _ trivial (Y.z (y_move rfl rfl) rfl) ?_
          refine Rf_ 2 97 rfl rfl rfl rfl rfl _ trivial (Y.z (y_move rfl rfl) rfl) ?_
          refine Rfg_ 3 98 rfl rfl rfl rfl rfl rfl rfl rfl _ trivial (Y.z (y_move rfl rfl) rfl) ?_
          refine Rf_ 4 99 rfl rfl rfl rfl rfl _ trivial (Y.z (y_and rfl rfl rfl) rfl) ?_
          refine Rf_ 5 100 rfl rfl rfl rfl rfl _ trivial (Y.z (y_move rfl rfl) rfl) ?_
          refine Rfg_ 6 101 rfl rfl rfl rfl rfl rfl rfl rfl _ trivial (Y.z (y_move rfl rfl) rfl) ?_
          refine Rf_ 7 102 rfl rfl rfl rfl rfl _ trivial (Y.z (y_and rfl rfl rfl) rfl) ?_
          refine Rf_ 8 103 rfl rfl rfl rfl rfl _ trivial (Y.z (y_move rfl rfl) rfl) ?_
          refine Rfg_ 9 104 rfl rfl rfl rfl rfl rfl rfl rfl _ trivial (Y.z (y_move rfl rfl) rfl) ?_
          refine Rfg_ 10 105 rfl rfl rfl rfl rfl rfl rfl rfl _ trivial (Y.z (y_not rfl rfl) rfl) ?_
          refine Rf_ 11 106 rfl rfl rfl rfl rfl _ trivial (Y.z (y_and rfl rfl rfl) rfl) ?_
          refine Rf_ 12 107 rfl rfl rfl rfl rfl _ trivial (Y.z (y_move rfl rfl) rfl) ?_
          refine Rfg_ 13 108 rfl rfl rfl rfl rfl rfl rfl rfl _ trivial (Y.z (y_fieldAddr rfl rfl fa42_4) rfl) ?_
          refine Rfg_ 14 109 rfl rfl rfl rfl rfl rfl rfl rfl _ ⟨rfl, trivial⟩ (Y.z (y_load 6 rfl rfl rfl rfl Tryz.underlying40 rfl) rfl) ?_
          refine Rfg_ 15 110 rfl rfl rfl rfl rfl rfl rfl rfl _ trivial (zg_len rfl rfl Tryz.underlying40) ?_
          refine Rfg_ 16 111 rfl rfl rfl rfl rfl rfl rfl rfl _ trivial (Y.z (y_bin rfl rfl rfl (fun _ => b_leq)) rfl) ?_
          refine Rf_ 17 112 rfl rfl rfl rfl rfl _ trivial (Y.z (y_and rfl rfl rfl) rfl) ?_
          refine R_chain 18 rfl rfl ?_
          refine S_store 2 rfl rfl rfl rfl rfl rfl sz42 rfl rfl ?_
          refine R_next ⟨.inl rfl, .inr ⟨rfl, trivial⟩, trivial⟩ ?_
          refine Rf_ 19 3 rfl rfl rfl rfl rfl _ trivial (Y.z (y_assign rfl rfl) rfl) ?_
          refine R_go (fun _ _ h => h) ?_
          refine T_ret (fun a w hF hM => hRb a w (post_cell 2 rfl rfl rfl rfl Tryz.underlying42 rfl (by exact sz42) (fun w hM => ?_) a w hF hM))
          have hr : parseR s = (⟨prS s, numI x, numI y, numI z, []⟩, numOk x && numOk y && numOk z && !badPre [] && decide (((([] : List (List UInt8)).length : Nat) : Int) ≤ 5)) := by
            rw [parseR, if_neg (by simp only [Bool.or_eq_true, decide_eq_true_eq, not_or]; omega), if_neg (by rw [h40b]; exact Bool.false_ne_true), if_neg (by omega), verV, parseOk, hw, hpre]; rfl
          rw [hr]
          exact ⟨none, 0, rfl, World.ownsRow_nil _ _ _ _, hM.below⟩
def parE (s : List UInt8) : PVer × Int := if relOk s = true then (verV s, 0) else (pver0, 8)
end Go.Proofs.YtpmlgnbbkpplhaaGreatDoor
end
section
namespace Go.Proofs.YtpmlgnbbkpplhaaGreatDoor
set_option linter.unusedSimpArgs false
set_option linter.unusedVariables false
set_option maxRecDepth 20000
open Go.RowKit Go.Eng
structure SVer where
  p : List UInt8
  a : Int
  b : Int
  c : Int
  pre : Sl (List UInt8)
def SVer.enc (v : SVer) : List Value := [str v.p, .int .i64 v.a, .int .i64 v.b, .int .i64 v.c, .slice v.pre.A v.pre.q v.pre.c]
def SVer.val (v : SVer) : Value := .agg v.enc.toArray
def SVer.says (v : SVer) : PVer := ⟨v.p, v.a, v.b, v.c, v.pre.l⟩
structure VerOk (w : World) (v : SVer) : Prop where
  ok : v.pre.Ok strE 1 w
  q : v.pre.q ≤ 1000000000
  n : ∀ s ∈ v.pre.l, s.length ≤ 1000000000
  s : v.p.length ≤ 1000000000
  a : -9223372036854775808 ≤ v.a ∧ v.a ≤ 9223372036854775807
  b : -9223372036854775808 ≤ v.b ∧ v.b ≤ 9223372036854775807
  c : -9223372036854775808 ≤ v.c ∧ v.c ≤ 9223372036854775807
theorem VerOk.below {w w' : World} {v : SVer} (h : VerOk w v) (hb : Below w.heap.size w w') : VerOk w' v := ⟨h.ok.below hb, h.q, h.n, h.s, h.a, h.b, h.c⟩
def iE (n : Int) : List Value := [.int .i64 n]
theorem or4_any (A : Option Addr) (c : Nat) (x0 x1 x2 x3 : Int) (w : World) (hl : SlT iE 1 w A 4 [x0, x1, x2, x3]) : Calls Tryz.prog 95 #[.slice A 4 c] w fun e w' => e = .returned (.int .i64 (or4 x0 x1 x2 x3)) ∧ Below w.heap.size w w' := by
  refine enter_args (args := [.slice A 4 c]) (F := _) Tryz.func95 rfl Tryz.ntmps95 rfl rfl ?_
  intro Rb hRb hRn
  refine T_seq ?_
  refine T_region ?_
  refine S_ 2 rfl rfl rfl _ (y_assign rfl rfl) ?_
  refine S_go (fun _ _ h => h) ?_
  refine T_seq ?_
  refine T_region ?_
  refine S_ 3 rfl rfl rfl _ (y_assign rfl rfl) ?_
  refine S_go (fun _ _ h => h) ?_
  refine T_seq ?_
  refine T_seq ?_
  refine T_region ?_
  refine S_ 6 rfl rfl rfl _ (y_move rfl rfl) ?_
  refine S_ 7 rfl rfl rfl _ (y_len_slice rfl rfl Tryz.underlying142) ?_
  refine S_ 8 rfl rfl rfl _ (y_move rfl rfl) ?_
  refine S_go (fun _ _ h => h) ?_
  refine T_block ?_
  refine T_loopK1 (kf := [(2, 2), (5, 5), (8, 16)]) (kl := [(2, 2), (5, 5), (8, 16)]) (fun (i : Nat) => [(8, true, .int .i64 (i : Int))]) (fun (i : Nat) => []) (fun (i : Nat) => i ≤ 4 ∧ or4 x0 x1 x2 x3 = (([x0, x1, x2, x3].drop i).find? (fun x => decide (x ≠ 0))).getD 0) (fun (i : Nat) => 4 - i) 0 (by repeat (first | exact kf_nil | (apply kf_in; focus rfl) | (apply kf_out; focus rfl))) (by repeat (first | exact kl_nil | exact kl_rest (by assumption) rfl | (apply kl_in; focus rfl) | (apply kl_out; focus rfl))) ?_ ?_ ?_ ?_
  · exact ⟨by omega, by unfold or4; by_cases h0 : x0 = 0 <;> by_cases h1 : x1 = 0 <;> by_cases h2 : x2 = 0 <;> by_cases h3 : x3 = 0 <;> simp [h0, h1, h2, h3]⟩
  · exact ⟨rfl, trivial⟩
  · exact trivial
  rintro i ⟨hp1, hp2⟩
  refine T_seq ?_
  refine T_region ?_
  refine S_ 9 rfl rfl rfl _ (y_bin rfl rfl rfl (fun _ => b_lss)) ?_
  refine S_go (fun _ _ h => h) ?_
  refine T_seq ?_
  refine T_cond rfl (fun h9 => ?_) (fun h9 => ?_)
  · try simp only [decide_eq_true_eq, decide_eq_false_iff_not, Bool.or_eq_true, Bool.or_eq_false_iff, Bool.and_eq_true, Bool.and_eq_false_iff, Bool.not_eq_true', Bool.not_eq_false', Bool.not_eq_true, Bool.not_eq_false, Bool.not_true, Bool.not_false, Int.not_lt, Int.not_le, not_or, not_and, Classical.not_not] at h9
    obtain ⟨x, hx1, hx2⟩ := hl.at (i := i) (by omega)
    refine T_skip_go (fun _ _ h => h) ?_
    refine T_seq ?_
    refine T_block ?_
    refine T_seq ?_
    refine T_region ?_
    refine S_ 10 rfl rfl rfl _ (y_indexAddr rfl rfl rfl Tryz.underlying142 sz3 (fun hg => hl.isSome (by omega)) (fun _ => by omega)) ?_
    refine S_ 11 rfl rfl rfl _ (y_loadT1 (val := (fun n : Int => Value.int .i64 n)) rfl rfl hl (fun _ => hx1) Tryz.underlying3 rfl) ?_
    refine S_ 5 rfl rfl rfl _ (y_assign rfl rfl) ?_
    refine S_go (fun _ _ h => h) ?_
    refine T_seq ?_
    refine T_region ?_
    refine S_ 12 rfl rfl rfl _ (y_move rfl rfl) ?_
    refine S_ 13 rfl rfl rfl _ (y_move rfl rfl) ?_
    refine S_ 14 rfl rfl rfl _ (y_bin rfl rfl rfl (fun _ => b_neq)) ?_
    refine S_go (fun _ _ h => h) ?_
    refine T_cond rfl (fun h14 => ?_) (fun h14 => ?_)
    · try simp only [decide_eq_true_eq, decide_eq_false_iff_not, Bool.or_eq_true, Bool.or_eq_false_iff, Bool.and_eq_true, Bool.and_eq_false_iff, Bool.not_eq_true', Bool.not_eq_false', Bool.not_eq_true, Bool.not_eq_false, Bool.not_true, Bool.not_false, Int.not_lt, Int.not_le, not_or, not_and, Classical.not_not] at h14
      refine T_seq ?_
      refine T_region ?_
      refine S_ 15 rfl rfl rfl _ (y_move rfl rfl) ?_
      refine S_ 2 rfl rfl rfl _ (y_assign rfl rfl) ?_
      refine S_go (fun _ _ h => h) ?_
      refine T_ret (fun a w hF hM => hRb a w (post1 rfl rfl (fun w hM => ?_) a w hF hM))
      exact ⟨by rw [hp2, hx2, List.find?_cons_of_pos (by simpa using h14)]; rfl, hM.below⟩
    · try simp only [decide_eq_true_eq, decide_eq_false_iff_not, Bool.or_eq_true, Bool.or_eq_false_iff, Bool.and_eq_true, Bool.and_eq_false_iff, Bool.not_eq_true', Bool.not_eq_false', Bool.not_eq_true, Bool.not_eq_false, Bool.not_true, Bool.not_false, Int.not_lt, Int.not_le, not_or, not_and, Classical.not_not] at h14
      refine T_skip_go (fun _ _ h => h) ?_
      refine T_region ?_
      refine S_ 16 rfl rfl rfl _ (y_bin rfl rfl rfl (fun hg => b_add (by omega))) ?_
      refine S_ 8 rfl rfl rfl _ (y_move rfl rfl) ?_
      refine S_nil (nextK1 (kf := [(2, 2), (5, 5), (8, 16)]) (kl := [(2, 2), (5, 5), (8, 16)]) (i + 1) (by repeat (first | exact kf_nil | (apply kf_in; focus rfl) | (apply kf_out; focus rfl))) (by repeat (first | exact kl_nil | exact kl_rest (by assumption) rfl | (apply kl_in; focus rfl) | (apply kl_out; focus rfl))) ?_ ?_ ?_ ?_)
      · omega
      · exact ⟨by omega, by rw [hp2, hx2, List.find?_cons_of_neg (by simpa using h14)]⟩
      · exact ⟨rfl, trivial⟩
      · exact trivial
  · try simp only [decide_eq_true_eq, decide_eq_false_iff_not, Bool.or_eq_true, Bool.or_eq_false_iff, Bool.and_eq_true, Bool.and_eq_false_iff, Bool.not_eq_true', Bool.not_eq_false', Bool.not_eq_true, Bool.not_eq_false, Bool.not_true, Bool.not_false, Int.not_lt, Int.not_le, not_or, not_and, Classical.not_not] at h9
    refine T_exit_go (fun _ _ h => h) ?_
    refine T_seq ?_
    refine T_region ?_
    refine S_ 17 rfl rfl rfl _ (y_move rfl rfl) ?_
    refine S_ 2 rfl rfl rfl _ (y_assign rfl rfl) ?_
    refine S_go (fun _ _ h => h) ?_
    refine T_ret (fun a w hF hM => hRb a w (post1 rfl rfl (fun w hM => ?_) a w hF hM))
    exact ⟨by rw [hp2, hl.end (by omega)]; rfl, hM.below⟩
theorem pre1_any (s : List UInt8) (hs : s.length ≤ 1000000000) (w : World) : Calls Tryz.prog 198 #[str s] w fun e w' => e = .returned (.bool (ptNum s)) ∧ Below w.heap.size w w' := by
  refine enter_args (args := [str s]) (F := _) Tryz.func198 rfl Tryz.ntmps198 rfl rfl ?_
  intro Rb hRb hRn
  refine T_seq ?_
  refine T_region ?_
  refine S_ 2 rfl rfl rfl _ (y_assign rfl rfl) ?_
  refine S_go (fun _ _ h => h) ?_
  refine T_seq ?_
  refine T_region ?_
  refine S_ 3 rfl rfl rfl _ (y_move rfl rfl) ?_
  refine S_ 4 rfl rfl rfl _ (y_call rfl rfl rfl cf189 (fun _ w _ => allOfD_any s hs w)) ?_
  refine S_ 5 rfl rfl rfl _ (y_move rfl rfl) ?_
  refine Sg_ 6 rfl rfl rfl rfl rfl rfl _ (y_move rfl rfl) ?_
  refine Sg_ 7 rfl rfl rfl rfl rfl rfl _ (y_len_str rfl rfl Tryz.underlying9) ?_
  refine Sg_ 8 rfl rfl rfl rfl rfl rfl _ (y_bin rfl rfl rfl (fun _ => b_leq)) ?_
  refine S_ 9 rfl rfl rfl _ (y_and rfl rfl rfl) ?_
  refine S_ 2 rfl rfl rfl _ (y_assign rfl rfl) ?_
  refine S_go (fun _ _ h => h) ?_
  refine T_ret (fun a w hF hM => hRb a w (post1 rfl rfl (fun w hM => ?_) a w hF hM))
  exact ⟨rfl, hM.below⟩
theorem ptNum_dig {s : List UInt8} (h : ptNum s = true) : s ≠ [] ∧ s.length ≤ 6 ∧ ∀ c ∈ s, 48 ≤ c.toNat ∧ c.toNat ≤ 57 := by
  simp only [ptNum, Bool.and_eq_true, decide_eq_true_eq] at h
  have := allOf_dig h.1
  exact ⟨this.1, by omega, this.2⟩
theorem comparePre_any (x y : List UInt8) (hx : x.length ≤ 1000000000) (hy : y.length ≤ 1000000000) (w : World) : Calls Tryz.prog 99 #[str x, str y] w fun e w' => e = .returned (.int .i64 (cmpPart x y)) ∧ Below w.heap.size w w' := by
  refine enter_args (args := [str x, str y]) (F := _) Tryz.func99 rfl Tryz.ntmps99 rfl rfl ?_
  intro Rb hRb hRn
  refine T_seq ?_
  refine T_region ?_
  refine S_ 4 rfl rfl rfl _ (y_assign rfl rfl) ?_
  refine S_go (fun _ _ h => h) ?_
  refine T_seq ?_
  refine T_region ?_
  refine S_ 5 rfl rfl rfl _ (y_assign rfl rfl) ?_
  refine S_go (fun _ _ h => h) ?_
  refine T_seq ?_
  refine T_region ?_
  refine S_ 12 rfl rfl rfl _ (y_move rfl rfl) ?_
  refine S_ 13 rfl rfl rfl _ (y_move rfl rfl) ?_
  refine S_ 14 rfl rfl rfl _ (y_call rfl rfl rfl cf198 (fun _ w _ => pre1_any x hx w)) ?_
  refine S_ 15 rfl rfl rfl _ (y_move rfl rfl) ?_
  refine S_ 16 rfl rfl rfl _ (y_move rfl rfl) ?_
  refine S_ 17 rfl rfl rfl _ (y_call rfl rfl rfl cf198 (fun _ w _ => pre1_any y hy w)) ?_
  refine S_ 6 rfl rfl rfl _ (y_assign rfl rfl) ?_
  refine S_ 7 rfl rfl rfl _ (y_assign rfl rfl) ?_
  refine S_go (fun _ _ h => h) ?_
  refine T_seq ?_
  refine T_block ?_
  refine T_seq ?_
  refine T_region ?_
  refine S_ 19 rfl rfl rfl _ (y_move rfl rfl) ?_
  refine S_ 20 rfl rfl rfl _ (y_move rfl rfl) ?_
  refine Sg_ 21 rfl rfl rfl rfl rfl rfl _ (y_move rfl rfl) ?_
  refine S_ 22 rfl rfl rfl _ (y_and rfl rfl rfl) ?_
  refine S_ 18 rfl rfl rfl _ (y_assign rfl rfl) ?_
  refine S_go (fun _ _ h => h) ?_
  refine T_cond rfl (fun h18 => ?_) (fun h18 => ?_)
  · skip
    have hd1 := ptNum_dig (by simp only [Bool.and_eq_true] at h18; exact h18.1)
    have hd2 := ptNum_dig (by simp only [Bool.and_eq_true] at h18; exact h18.2)
    refine T_seq ?_
    refine T_region ?_
    refine S_ 24 rfl rfl rfl _ (y_move rfl rfl) ?_
    refine S_ 25 rfl rfl rfl _ (y_call rfl rfl rfl cf199 (fun _ w _ => Atoi_any x hd1.1 (by omega) hd1.2.2 w)) ?_
    refine S_ 23 rfl rfl rfl _ (y_move rfl rfl) ?_
    refine S_ 26 rfl rfl rfl _ (y_extract rfl rfl rfl) ?_
    refine S_ 27 rfl rfl rfl _ (y_extract rfl rfl rfl) ?_
    refine S_ 8 rfl rfl rfl _ (y_assign rfl rfl) ?_
    refine S_ 9 rfl rfl rfl _ (y_assign rfl rfl) ?_
    refine S_go (fun _ _ h => h) ?_
    refine T_seq ?_
    refine T_region ?_
    refine S_ 29 rfl rfl rfl _ (y_move rfl rfl) ?_
    refine S_ 30 rfl rfl rfl _ (y_call rfl rfl rfl cf199 (fun _ w _ => Atoi_any y hd2.1 (by omega) hd2.2.2 w)) ?_
    refine S_ 28 rfl rfl rfl _ (y_move rfl rfl) ?_
    refine S_ 31 rfl rfl rfl _ (y_extract rfl rfl rfl) ?_
    refine S_ 32 rfl rfl rfl _ (y_extract rfl rfl rfl) ?_
    refine S_ 10 rfl rfl rfl _ (y_assign rfl rfl) ?_
    refine S_ 11 rfl rfl rfl _ (y_assign rfl rfl) ?_
    refine S_go (fun _ _ h => h) ?_
    refine T_seq ?_
    refine T_region ?_
    refine S_ 33 rfl rfl rfl _ (y_move rfl rfl) ?_
    refine S_ 34 rfl rfl rfl _ (y_move rfl rfl) ?_
    refine S_ 35 rfl rfl rfl _ (y_call rfl rfl rfl cf97 (fun _ w _ => cmpJ_any _ _ w)) ?_
    refine S_ 4 rfl rfl rfl _ (y_assign rfl rfl) ?_
    refine S_go (fun _ _ h => h) ?_
    refine T_ret (fun a w hF hM => hRb a w (post1 rfl rfl (fun w hM => ?_) a w hF hM))
    exact ⟨by rw [cmpPart, if_pos h18], hM.below⟩
  · skip
    refine T_seq ?_
    refine T_region ?_
    refine S_ 37 rfl rfl rfl _ (y_move rfl rfl) ?_
    refine S_ 36 rfl rfl rfl _ (y_assign rfl rfl) ?_
    refine S_go (fun _ _ h => h) ?_
    refine T_cond rfl (fun h36 => ?_) (fun h36 => ?_)
    · skip
      refine T_seq ?_
      refine T_region ?_
      refine S_ 4 rfl rfl rfl _ (y_assign rfl rfl) ?_
      refine S_go (fun _ _ h => h) ?_
      refine T_ret (fun a w hF hM => hRb a w (post1 rfl rfl (fun w hM => ?_) a w hF hM))
      exact ⟨by rw [cmpPart, if_neg (by simp [h18]), if_pos h36], hM.below⟩
    · skip
      refine T_seq ?_
      refine T_region ?_
      refine S_ 39 rfl rfl rfl _ (y_move rfl rfl) ?_
      refine S_ 38 rfl rfl rfl _ (y_assign rfl rfl) ?_
      refine S_go (fun _ _ h => h) ?_
      refine T_cond rfl (fun h38 => ?_) (fun h38 => ?_)
      · skip
        refine T_seq ?_
        refine T_region ?_
        refine S_ 4 rfl rfl rfl _ (y_assign rfl rfl) ?_
        refine S_go (fun _ _ h => h) ?_
        refine T_ret (fun a w hF hM => hRb a w (post1 rfl rfl (fun w hM => ?_) a w hF hM))
        exact ⟨by rw [cmpPart, if_neg (by simp [h18]), if_neg (by simp [h36]), if_pos h38], hM.below⟩
      · skip
        refine T_skip_go (fun _ _ h => h) ?_
        refine T_seq ?_
        refine T_region ?_
        refine S_ 40 rfl rfl rfl _ (y_move rfl rfl) ?_
        refine S_ 41 rfl rfl rfl _ (y_move rfl rfl) ?_
        refine S_ 42 rfl rfl rfl _ (y_call rfl rfl rfl cf96 (fun _ w _ => cmpB_any _ _ w)) ?_
        refine S_ 4 rfl rfl rfl _ (y_assign rfl rfl) ?_
        refine S_go (fun _ _ h => h) ?_
        refine T_ret (fun a w hF hM => hRb a w (post1 rfl rfl (fun w hM => ?_) a w hF hM))
        exact ⟨by rw [cmpPart, if_neg (by simp [h18]), if_neg (by simp [h36]), if_neg (by simp [h38])], hM.below⟩
theorem CmpF_any (A B : Option Addr) (q c p d : Nat) (l m : List (List UInt8)) (w : World) (hl : SlT strE 1 w A q l) (hm : SlT strE 1 w B p m) (hq : q ≤ 1000000000) (hp : p ≤ 1000000000) (hln : ∀ s ∈ l, s.length ≤ 1000000000) (hmn : ∀ s ∈ m, s.length ≤ 1000000000) :
    Calls Tryz.prog 98 #[.slice A q c, .slice B p d, .func (.func 99) #[] #[]] w fun e w' => e = .returned (.int .i64 (cmpL cmpPart l m)) ∧ Below w.heap.size w w' := by
  have hlen := hl.len
  have hmen := hm.len
  refine enter_args (args := [.slice A q c, .slice B p d, .func (.func 99) #[] #[]]) (F := _) Tryz.func98 rfl Tryz.ntmps98 rfl rfl ?_
  intro Rb hRb hRn
  refine T_seq ?_
  refine T_region ?_
  refine S_ 6 rfl rfl rfl _ (y_assign rfl rfl) ?_
  refine S_go (fun _ _ h => h) ?_
  refine T_seq ?_
  refine T_seq ?_
  refine T_region ?_
  refine S_ 11 rfl rfl rfl _ (y_move rfl rfl) ?_
  refine S_ 12 rfl rfl rfl _ (y_len_slice rfl rfl Tryz.underlying40) ?_
  refine S_ 13 rfl rfl rfl _ (y_move rfl rfl) ?_
  refine S_go (fun _ _ h => h) ?_
  refine T_block ?_
  refine T_loopK1 (kf := [(6, 10), (13, 33)]) (kl := [(6, 10), (13, 33)]) (fun (i : Nat) => [(13, true, .int .i64 (i : Int))]) (fun (i : Nat) => []) (fun (i : Nat) => i ≤ q ∧ i ≤ p ∧ cmpL cmpPart l m = cmpL cmpPart (l.drop i) (m.drop i)) (fun (i : Nat) => q - i) 0 (by repeat (first | exact kf_nil | (apply kf_in; focus rfl) | (apply kf_out; focus rfl))) (by repeat (first | exact kl_nil | exact kl_rest (by assumption) rfl | (apply kl_in; focus rfl) | (apply kl_out; focus rfl))) ?_ ?_ ?_ ?_
  · exact ⟨by omega, by omega, rfl⟩
  · exact ⟨rfl, trivial⟩
  · exact trivial
  rintro i ⟨hp1, hp3, hp2⟩
  refine T_seq ?_
  refine T_region ?_
  refine S_ 14 rfl rfl rfl _ (y_bin rfl rfl rfl (fun _ => b_lss)) ?_
  refine S_go (fun _ _ h => h) ?_
  refine T_seq ?_
  refine T_cond rfl (fun h14 => ?_) (fun h14 => ?_)
  · try simp only [decide_eq_true_eq, decide_eq_false_iff_not, Bool.or_eq_true, Bool.or_eq_false_iff, Bool.and_eq_true, Bool.and_eq_false_iff, Bool.not_eq_true', Bool.not_eq_false', Bool.not_eq_true, Bool.not_eq_false, Bool.not_true, Bool.not_false, Int.not_lt, Int.not_le, not_or, not_and, Classical.not_not] at h14
    obtain ⟨x, hx1, hx2⟩ := hl.at (i := i) (by omega)
    refine T_skip_go (fun _ _ h => h) ?_
    refine T_seq ?_
    refine T_block ?_
    refine T_seq ?_
    refine T_region ?_
    refine S_ 15 rfl rfl rfl _ (y_move rfl rfl) ?_
    refine S_ 16 rfl rfl rfl _ (y_indexAddr rfl rfl rfl Tryz.underlying40 sz9 (fun hg => hl.isSome (by omega)) (fun _ => by omega)) ?_
    refine S_ 17 rfl rfl rfl _ (y_loadT1 (val := (fun l : List UInt8 => str l)) rfl rfl hl (fun _ => hx1) Tryz.underlying9 rfl) ?_
    refine S_ 7 rfl rfl rfl _ (y_assign rfl rfl) ?_
    refine S_ 8 rfl rfl rfl _ (y_assign rfl rfl) ?_
    refine S_go (fun _ _ h => h) ?_
    refine T_seq ?_
    refine T_seq ?_
    refine T_region ?_
    refine S_ 18 rfl rfl rfl _ (y_move rfl rfl) ?_
    refine S_ 19 rfl rfl rfl _ (y_move rfl rfl) ?_
    refine S_ 20 rfl rfl rfl _ (y_len_slice rfl rfl Tryz.underlying40) ?_
    refine S_ 21 rfl rfl rfl _ (y_bin rfl rfl rfl (fun _ => b_geq)) ?_
    refine S_go (fun _ _ h => h) ?_
    refine T_cond rfl (fun h21 => ?_) (fun h21 => ?_)
    · try simp only [decide_eq_true_eq, decide_eq_false_iff_not, Bool.or_eq_true, Bool.or_eq_false_iff, Bool.and_eq_true, Bool.and_eq_false_iff, Bool.not_eq_true', Bool.not_eq_false', Bool.not_eq_true, Bool.not_eq_false, Bool.not_true, Bool.not_false, Int.not_lt, Int.not_le, not_or, not_and, Classical.not_not] at h21
      refine T_seq ?_
      refine T_region ?_
      refine S_ 6 rfl rfl rfl _ (y_assign rfl rfl) ?_
      refine S_go (fun _ _ h => h) ?_
      refine T_ret (fun a w hF hM => hRb a w (post1 rfl rfl (fun w hM => ?_) a w hF hM))
      exact ⟨by rw [hp2, hx2, hm.end (by omega)]; rfl, hM.below⟩
    · try simp only [decide_eq_true_eq, decide_eq_false_iff_not, Bool.or_eq_true, Bool.or_eq_false_iff, Bool.and_eq_true, Bool.and_eq_false_iff, Bool.not_eq_true', Bool.not_eq_false', Bool.not_eq_true, Bool.not_eq_false, Bool.not_true, Bool.not_false, Int.not_lt, Int.not_le, not_or, not_and, Classical.not_not] at h21
      obtain ⟨y, hy1, hy2⟩ := hm.at (i := i) (by omega)
      refine T_skip_go (fun _ _ h => h) ?_
      refine T_seq ?_
      refine T_region ?_
      refine S_ 22 rfl rfl rfl _ (y_move rfl rfl) ?_
      refine S_ 23 rfl rfl rfl _ (y_move rfl rfl) ?_
      refine S_ 24 rfl rfl rfl _ (y_indexAddr rfl rfl rfl Tryz.underlying40 sz9 (fun hg => hm.isSome (by omega)) (fun _ => by omega)) ?_
      refine S_ 25 rfl rfl rfl _ (y_loadT1 (val := (fun l : List UInt8 => str l)) rfl rfl hm (fun _ => hy1) Tryz.underlying9 rfl) ?_
      refine S_ 9 rfl rfl rfl _ (y_assign rfl rfl) ?_
      refine S_go (fun _ _ h => h) ?_
      refine T_seq ?_
      refine T_region ?_
      refine S_ 26 rfl rfl rfl _ (y_move rfl rfl) ?_
      refine S_ 27 rfl rfl rfl _ (y_move rfl rfl) ?_
      refine S_ 28 rfl rfl rfl _ (y_move rfl rfl) ?_
      refine S_ 29 rfl rfl rfl _ (y_call rfl rfl rfl cf99 (fun _ w _ => comparePre_any x y (hln x (mem_at hx1)) (hmn y (mem_at hy1)) w)) ?_
      refine S_ 10 rfl rfl rfl _ (y_assign rfl rfl) ?_
      refine S_go (fun _ _ h => h) ?_
      refine T_seq ?_
      refine T_region ?_
      refine S_ 30 rfl rfl rfl _ (y_move rfl rfl) ?_
      refine S_ 31 rfl rfl rfl _ (y_bin rfl rfl rfl (fun _ => b_neq)) ?_
      refine S_go (fun _ _ h => h) ?_
      refine T_cond rfl (fun h31 => ?_) (fun h31 => ?_)
      · skip
        refine T_seq ?_
        refine T_region ?_
        refine S_ 32 rfl rfl rfl _ (y_move rfl rfl) ?_
        refine S_ 6 rfl rfl rfl _ (y_assign rfl rfl) ?_
        refine S_go (fun _ _ h => h) ?_
        refine T_ret (fun a w hF hM => hRb a w (post1 rfl rfl (fun w hM => ?_) a w hF hM))
        exact ⟨by rw [hp2, hx2, hy2, cmpL, if_pos (by simpa using h31)], hM.below⟩
      · skip
        refine T_skip_go (fun _ _ h => h) ?_
        refine T_region ?_
        refine S_ 33 rfl rfl rfl _ (y_bin rfl rfl rfl (fun hg => b_add (by omega))) ?_
        refine S_ 13 rfl rfl rfl _ (y_move rfl rfl) ?_
        refine S_nil (nextK1 (kf := [(6, 10), (13, 33)]) (kl := [(6, 10), (13, 33)]) (i + 1) (by repeat (first | exact kf_nil | (apply kf_in; focus rfl) | (apply kf_out; focus rfl))) (by repeat (first | exact kl_nil | exact kl_rest (by assumption) rfl | (apply kl_in; focus rfl) | (apply kl_out; focus rfl))) ?_ ?_ ?_ ?_)
        · omega
        · exact ⟨by omega, by omega, by rw [hp2, hx2, hy2, cmpL, if_neg (by simpa using h31)]⟩
        · exact ⟨rfl, trivial⟩
        · exact trivial
  · try simp only [decide_eq_true_eq, decide_eq_false_iff_not, Bool.or_eq_true, Bool.or_eq_false_iff, Bool.and_eq_true, Bool.and_eq_false_iff, Bool.not_eq_true', Bool.not_eq_false', Bool.not_eq_true, Bool.not_eq_false, Bool.not_true, Bool.not_false, Int.not_lt, Int.not_le, not_or, not_and, Classical.not_not] at h14
    refine T_exit_go (fun _ _ h => h) ?_
    refine T_seq ?_
    refine T_seq ?_
    refine T_region ?_
    refine S_ 34 rfl rfl rfl _ (y_move rfl rfl) ?_
    refine S_ 35 rfl rfl rfl _ (y_len_slice rfl rfl Tryz.underlying40) ?_
    refine S_ 36 rfl rfl rfl _ (y_move rfl rfl) ?_
    refine S_ 37 rfl rfl rfl _ (y_len_slice rfl rfl Tryz.underlying40) ?_
    refine S_ 38 rfl rfl rfl _ (y_bin rfl rfl rfl (fun _ => b_lss)) ?_
    refine S_go (fun _ _ h => h) ?_
    refine T_cond rfl (fun h38 => ?_) (fun h38 => ?_)
    · try simp only [decide_eq_true_eq, decide_eq_false_iff_not, Bool.or_eq_true, Bool.or_eq_false_iff, Bool.and_eq_true, Bool.and_eq_false_iff, Bool.not_eq_true', Bool.not_eq_false', Bool.not_eq_true, Bool.not_eq_false, Bool.not_true, Bool.not_false, Int.not_lt, Int.not_le, not_or, not_and, Classical.not_not] at h38
      refine T_seq ?_
      refine T_region ?_
      refine S_ 6 rfl rfl rfl _ (y_assign rfl rfl) ?_
      refine S_go (fun _ _ h => h) ?_
      refine T_ret (fun a w hF hM => hRb a w (post1 rfl rfl (fun w hM => ?_) a w hF hM))
      obtain ⟨y, hy1, hy2⟩ := hm.at (i := i) (by omega)
      exact ⟨by rw [hp2, hl.end (by omega), hy2]; rfl, hM.below⟩
    · try simp only [decide_eq_true_eq, decide_eq_false_iff_not, Bool.or_eq_true, Bool.or_eq_false_iff, Bool.and_eq_true, Bool.and_eq_false_iff, Bool.not_eq_true', Bool.not_eq_false', Bool.not_eq_true, Bool.not_eq_false, Bool.not_true, Bool.not_false, Int.not_lt, Int.not_le, not_or, not_and, Classical.not_not] at h38
      refine T_skip_go (fun _ _ h => h) ?_
      refine T_seq ?_
      refine T_region ?_
      refine S_ 6 rfl rfl rfl _ (y_assign rfl rfl) ?_
      refine S_go (fun _ _ h => h) ?_
      refine T_ret (fun a w hF hM => hRb a w (post1 rfl rfl (fun w hM => ?_) a w hF hM))
      exact ⟨by rw [hp2, hl.end (by omega), hm.end (by omega)]; rfl, hM.below⟩
theorem Compare_any (x y : SVer) (w : World) (hx : VerOk w x) (hy : VerOk w y) :
    Calls Tryz.prog 22 #[x.val, y.val] w fun e w' => e = .returned (.int .i64 (cmpV x.says y.says)) ∧ Below w.heap.size w w' := by
  have hxl := hx.ok.t.len
  have hyl := hy.ok.t.len
  have hxq := hx.q
  have hyq := hy.q
  have nil_iff : ∀ {l : List (List UInt8)} {q : Nat}, l.length = q → (l = [] ↔ (q : Int) = 0) := by
    intro l q h
    constructor
    · intro e; subst e; simp at h; omega
    · intro e; exact List.eq_nil_of_length_eq_zero (by omega)
  have hxn : x.says.pre = [] ↔ (x.pre.q : Int) = 0 := nil_iff hxl
  have hyn : y.says.pre = [] ↔ (y.pre.q : Int) = 0 := nil_iff hyl
  refine enter_args (args := [.agg #[str x.p, .int .i64 x.a, .int .i64 x.b, .int .i64 x.c, .slice x.pre.A x.pre.q x.pre.c], .agg #[str y.p, .int .i64 y.a, .int .i64 y.b, .int .i64 y.c, .slice y.pre.A y.pre.q y.pre.c]]) (F := _) Tryz.func22 rfl Tryz.ntmps22 rfl rfl ?_
  intro Rb hRb hRn
  refine T_seq ?_
  refine T_region ?_
  refine S_box 2 2 rfl rfl rfl rfl rfl ?_
  intro b2
  refine S_box 3 3 rfl rfl rfl rfl rfl ?_
  intro b3
  refine S_ 4 rfl rfl rfl _ (y_assign rfl rfl) ?_
  refine S_go (fun _ _ h => h) ?_
  refine T_seq ?_
  refine T_seq ?_
  refine T_drawsTail 20 (by kernel_rfl) (by kernel_rfl) ?_
  refine D_ 8 rfl rfl rfl _ (y_fieldAddr rfl rfl fa42_0) ?_
  refine D_ 9 rfl rfl rfl _ (y_load 2 rfl rfl rfl rfl Tryz.underlying9 rfl) ?_
  refine D_ 10 rfl rfl rfl _ (y_fieldAddr rfl rfl fa42_0) ?_
  refine D_ 11 rfl rfl rfl _ (y_load 3 rfl rfl rfl rfl Tryz.underlying9 rfl) ?_
  refine D_ 12 rfl rfl rfl _ (y_call rfl rfl rfl cf96 (fun _ w _ => cmpB_any _ _ w)) ?_
  refine D_ 13 rfl rfl rfl _ (y_fieldAddr rfl rfl fa42_1) ?_
  refine D_ 14 rfl rfl rfl _ (y_load 2 rfl rfl rfl rfl Tryz.underlying3 rfl) ?_
  refine D_ 15 rfl rfl rfl _ (y_fieldAddr rfl rfl fa42_1) ?_
  refine D_ 16 rfl rfl rfl _ (y_load 3 rfl rfl rfl rfl Tryz.underlying3 rfl) ?_
  refine D_ 17 rfl rfl rfl _ (y_call rfl rfl rfl cf97 (fun _ w _ => cmpJ_any _ _ w)) ?_
  refine D_ 18 rfl rfl rfl _ (y_fieldAddr rfl rfl fa42_2) ?_
  refine D_ 19 rfl rfl rfl _ (y_load 2 rfl rfl rfl rfl Tryz.underlying3 rfl) ?_
  refine D_ 20 rfl rfl rfl _ (y_fieldAddr rfl rfl fa42_2) ?_
  refine D_ 21 rfl rfl rfl _ (y_load 3 rfl rfl rfl rfl Tryz.underlying3 rfl) ?_
  refine D_ 22 rfl rfl rfl _ (y_call rfl rfl rfl cf97 (fun _ w _ => cmpJ_any _ _ w)) ?_
  refine D_ 23 rfl rfl rfl _ (y_fieldAddr rfl rfl fa42_3) ?_
  refine D_ 24 rfl rfl rfl _ (y_load 2 rfl rfl rfl rfl Tryz.underlying3 rfl) ?_
  refine D_ 25 rfl rfl rfl _ (y_fieldAddr rfl rfl fa42_3) ?_
  refine D_ 26 rfl rfl rfl _ (y_load 3 rfl rfl rfl rfl Tryz.underlying3 rfl) ?_
  refine D_ 27 rfl rfl rfl _ (y_call rfl rfl rfl cf97 (fun _ w _ => cmpJ_any _ _ w)) ?_
  refine D_tail ?_
  refine S_buildSlice 28 28 rfl rfl rfl rfl rfl Tryz.underlying142 inf3 rfl (by decide) (by decide) rfl rfl (by decide) rfl (_) rfl ?_
  intro b28
  refine S_ 29 rfl rfl rfl _ (y_as (v' := .int .i64 (headC x.says y.says)) (by exact rfl) (y_call rfl rfl rfl cf95 (fun _ w hM => or4_any _ _ (cmpB x.p y.p) (cmpJ x.a y.a) (cmpJ x.b y.b) (cmpJ x.c y.c) w ⟨own_reads hM (i := 28) rfl, rfl⟩))) ?_
  refine S_ 5 rfl rfl rfl _ (y_assign rfl rfl) ?_
  refine S_go (fun _ _ h => h) ?_
  refine T_seq ?_
  refine T_region ?_
  refine S_ 30 rfl rfl rfl _ (y_move rfl rfl) ?_
  refine S_ 31 rfl rfl rfl _ (y_bin rfl rfl rfl (fun _ => b_neq)) ?_
  refine S_go (fun _ _ h => h) ?_
  refine T_cond rfl (fun h31 => ?_) (fun h31 => ?_)
  · skip
    have h31 : headC x.says y.says ≠ 0 := by simpa using h31
    refine T_seq ?_
    refine T_region ?_
    refine S_ 32 rfl rfl rfl _ (y_move rfl rfl) ?_
    refine S_ 4 rfl rfl rfl _ (y_assign rfl rfl) ?_
    refine S_go (fun _ _ h => h) ?_
    refine T_ret (fun a w hF hM => hRb a w (post1 rfl rfl (fun w hM => ?_) a w hF hM))
    exact ⟨by rw [cmpV, if_pos h31], hM.below⟩
  · skip
    have h31 : ¬ headC x.says y.says ≠ 0 := by simpa using h31
    refine T_skip_go (fun _ _ h => h) ?_
    refine T_seq ?_
    refine T_seq ?_
    refine T_draws (by kernel_rfl) (by kernel_rfl) ?_
    refine D_ 33 rfl rfl rfl _ (y_fieldAddr rfl rfl fa42_4) ?_
    refine D_ 34 rfl rfl rfl _ (y_load 2 rfl rfl rfl rfl Tryz.underlying40 rfl) ?_
    refine D_ 35 rfl rfl rfl _ (y_len_slice rfl rfl Tryz.underlying40) ?_
    refine D_ 36 rfl rfl rfl _ (y_bin rfl rfl rfl (fun _ => b_eql)) ?_
    refine D_ 37 rfl rfl rfl _ (y_fieldAddr rfl rfl fa42_4) ?_
    refine D_ 38 rfl rfl rfl _ (y_load 3 rfl rfl rfl rfl Tryz.underlying40 rfl) ?_
    refine D_ 39 rfl rfl rfl _ (y_len_slice rfl rfl Tryz.underlying40) ?_
    refine D_ 40 rfl rfl rfl _ (y_bin rfl rfl rfl (fun _ => b_eql)) ?_
    refine D_ 6 rfl rfl rfl _ (y_assign rfl rfl) ?_
    refine D_ 7 rfl rfl rfl _ (y_assign rfl rfl) ?_
    refine D_go (fun _ _ h => h) ?_
    refine T_block ?_
    refine T_seq ?_
    refine T_region ?_
    refine S_ 42 rfl rfl rfl _ (y_move rfl rfl) ?_
    refine S_ 43 rfl rfl rfl _ (y_move rfl rfl) ?_
    refine Sg_ 44 rfl rfl rfl rfl rfl rfl _ (y_move rfl rfl) ?_
    refine S_ 45 rfl rfl rfl _ (y_and rfl rfl rfl) ?_
    refine S_ 41 rfl rfl rfl _ (y_assign rfl rfl) ?_
    refine S_go (fun _ _ h => h) ?_
    refine T_cond rfl (fun h41 => ?_) (fun h41 => ?_)
    · skip
      refine T_seq ?_
      refine T_region ?_
      refine S_ 4 rfl rfl rfl _ (y_assign rfl rfl) ?_
      refine S_go (fun _ _ h => h) ?_
      refine T_ret (fun a w hF hM => hRb a w (post1 rfl rfl (fun w hM => ?_) a w hF hM))
      simp only [Bool.and_eq_true, decide_eq_true_eq] at h41
      exact ⟨by rw [cmpV, if_neg h31, cmpPre, if_pos (hxn.2 h41.1), if_pos (hyn.2 h41.2)], hM.below⟩
    · skip
      refine T_seq ?_
      refine T_region ?_
      refine S_ 47 rfl rfl rfl _ (y_move rfl rfl) ?_
      refine S_ 46 rfl rfl rfl _ (y_assign rfl rfl) ?_
      refine S_go (fun _ _ h => h) ?_
      refine T_cond rfl (fun h46 => ?_) (fun h46 => ?_)
      · skip
        refine T_seq ?_
        refine T_region ?_
        refine S_ 4 rfl rfl rfl _ (y_assign rfl rfl) ?_
        refine S_go (fun _ _ h => h) ?_
        refine T_ret (fun a w hF hM => hRb a w (post1 rfl rfl (fun w hM => ?_) a w hF hM))
        simp only [Bool.and_eq_false_iff, decide_eq_false_iff_not] at h41
        simp only [decide_eq_true_eq] at h46
        exact ⟨by rw [cmpV, if_neg h31, cmpPre, if_pos (hxn.2 h46), if_neg (fun h => by have := hyn.1 h; omega)], hM.below⟩
      · skip
        refine T_seq ?_
        refine T_region ?_
        refine S_ 49 rfl rfl rfl _ (y_move rfl rfl) ?_
        refine S_ 48 rfl rfl rfl _ (y_assign rfl rfl) ?_
        refine S_go (fun _ _ h => h) ?_
        refine T_cond rfl (fun h48 => ?_) (fun h48 => ?_)
        · skip
          refine T_seq ?_
          refine T_region ?_
          refine S_ 4 rfl rfl rfl _ (y_assign rfl rfl) ?_
          refine S_go (fun _ _ h => h) ?_
          refine T_ret (fun a w hF hM => hRb a w (post1 rfl rfl (fun w hM => ?_) a w hF hM))
          simp only [decide_eq_false_iff_not] at h46
          simp only [decide_eq_true_eq] at h48
          exact ⟨by rw [cmpV, if_neg h31, cmpPre, if_neg (fun h => h46 (hxn.1 h)), if_pos (hyn.2 h48)], hM.below⟩
        · skip
          refine T_skip_go (fun _ _ h => h) ?_
          refine T_seq ?_
          refine T_region ?_
          refine S_ 50 rfl rfl rfl _ (y_fieldAddr rfl rfl fa42_4) ?_
          refine S_ 51 rfl rfl rfl _ (y_load 2 rfl rfl rfl rfl Tryz.underlying40 rfl) ?_
          refine S_ 52 rfl rfl rfl _ (y_fieldAddr rfl rfl fa42_4) ?_
          refine S_ 53 rfl rfl rfl _ (y_load 3 rfl rfl rfl rfl Tryz.underlying40 rfl) ?_
          refine S_ 54 rfl rfl rfl _ (y_call rfl rfl rfl cf98 (fun _ w hM => CmpF_any _ _ _ _ _ _ x.pre.l y.pre.l w (hx.ok.t.below hM.below) (hy.ok.t.below hM.below) hxq hyq hx.n hy.n)) ?_
          refine S_ 4 rfl rfl rfl _ (y_assign rfl rfl) ?_
          refine S_go (fun _ _ h => h) ?_
          refine T_ret (fun a w hF hM => hRb a w (post1 rfl rfl (fun w hM => ?_) a w hF hM))
          simp only [decide_eq_false_iff_not] at h46 h48
          exact ⟨by rw [cmpV, if_neg h31, cmpPre, if_neg (fun h => h46 (hxn.1 h)), if_neg (fun h => h48 (hyn.1 h))]; rfl, hM.below⟩
theorem routside_any (n lo hi : Int) (w : World) : Calls Tryz.prog 87 #[.int .i64 n, .int .i64 lo, .int .i64 hi] w fun e w' => e = .returned (.bool (outB n lo hi)) ∧ Below w.heap.size w w' := by
  refine enter_args (args := [.int .i64 n, .int .i64 lo, .int .i64 hi]) (F := _) Tryz.func87 rfl Tryz.ntmps87 rfl rfl ?_
  intro Rb hRb hRn
  refine T_seq ?_
  refine T_region ?_
  refine S_ 6 rfl rfl rfl _ (y_assign rfl rfl) ?_
  refine S_go (fun _ _ h => h) ?_
  refine T_seq ?_
  refine T_region ?_
  refine S_ 7 rfl rfl rfl _ (y_move rfl rfl) ?_
  refine S_ 8 rfl rfl rfl _ (y_move rfl rfl) ?_
  refine S_ 9 rfl rfl rfl _ (y_bin rfl rfl rfl (fun _ => b_lss)) ?_
  refine S_ 10 rfl rfl rfl _ (y_move rfl rfl) ?_
  refine Sg_ 11 rfl rfl rfl rfl rfl rfl _ (y_move rfl rfl) ?_
  refine Sg_ 12 rfl rfl rfl rfl rfl rfl _ (y_move rfl rfl) ?_
  refine Sg_ 13 rfl rfl rfl rfl rfl rfl _ (y_bin rfl rfl rfl (fun _ => b_gtr)) ?_
  refine S_ 14 rfl rfl rfl _ (y_or rfl rfl rfl) ?_
  refine S_ 6 rfl rfl rfl _ (y_assign rfl rfl) ?_
  refine S_go (fun _ _ h => h) ?_
  refine T_ret (fun a w hF hM => hRb a w (post1 rfl rfl (fun w hM => ?_) a w hF hM))
  exact ⟨rfl, hM.below⟩
theorem JoinD_any (A : Option Addr) (q c : Nat) (l : List (List UInt8)) (w : World) (hl : SlT strE 1 w A q l) (hq : 0 < q) (hcap : q ≤ c) (hlen : (Lib.join l [46]).length ≤ 140737488355328) (h47 : q ≤ 1000000) :
    Calls Tryz.prog 91 #[.slice A q c, str [46]] w fun e w' => e = .returned (str (Lib.join l [46])) ∧ Below w.heap.size w w' := by
  obtain ⟨ad, rfl, hlt, hc⟩ := hl.rd.2 hq
  obtain ⟨bk, o, sp⟩ := ad
  have hll := hl.len
  have hx : ∀ (j : Nat) (s : List UInt8), l[j]? = some s → w.cell? ((⟨bk, o, sp⟩ : Addr).add j) = some (str s) := fun j s hj => hc j (str s) (by rw [strs_flat, List.getElem?_map, hj]; rfl)
  have hsp : sp = none := by
    obtain ⟨s, hs⟩ : ∃ s, l[0]? = some s := ⟨_, List.getElem?_eq_getElem (by omega)⟩
    have h := hx 0 s hs
    cases sp with
    | none => rfl
    | some k =>
      rw [show (⟨bk, o, some k⟩ : Addr).add 0 = ⟨bk, o, some k⟩ from rfl] at h
      unfold World.cell? at h
      split at h
      · simp at h
      · cases h
  subst hsp
  have hm : (l.map fun s => (⟨s.toArray⟩ : ByteArray)).map (·.data.toList) = l := by rw [List.map_map]; exact (List.map_congr_left fun s _ => rfl).trans (List.map_id l)
  have h := Any.strings_Join Tryz.lays156 Tryz.Builder_Extra_156 bk o c (l.map fun s => ⟨s.toArray⟩) ⟨#[46]⟩ w (fun j x hj => by
      rw [List.getElem?_map] at hj
      obtain ⟨s, hs, rfl⟩ := Option.map_eq_some_iff.1 hj
      have := hx j s hs
      rwa [show (⟨bk, o, none⟩ : Addr).add j = ⟨bk, o + j, none⟩ from by unfold Addr.add; split <;> simp_all] at this) hlt (by rw [List.length_map]; omega) (by rw [List.length_map]; omega) (by rw [hm]; exact hlen)
  rw [hm, List.length_map, hll] at h
  exact h
theorem lensB_le {n : Nat} : ∀ l : List (List UInt8), (∀ s ∈ l, s.length ≤ n) → Lib.lens l ≤ n * l.length
  | [], _ => by simp [Lib.lens]
  | a :: r, h => by
    have h1 := h a (List.mem_cons_self ..)
    have h2 := lensB_le r fun s hs => h s (List.mem_cons_of_mem _ hs)
    have h3 : Lib.lens (a :: r) = a.length + Lib.lens r := by simp [Lib.lens]
    rw [h3, List.length_cons, Nat.mul_succ]; omega
theorem joinB_le {n : Nat} (c : UInt8) (l : List (List UInt8)) (h : ∀ s ∈ l, s.length ≤ n) : (Lib.join l [c]).length ≤ (n + 1) * l.length := by
  cases l with
  | nil => simp [Lib.join_nil]
  | cons a r =>
    have := lensB_le (a :: r) h
    rw [Lib.join_length]
    simp only [List.length_cons, List.length_nil] at this ⊢
    have e : (n + 1) * (r.length + 1) = n * (r.length + 1) + (r.length + 1) := Nat.succ_mul _ _
    rw [e]; omega
theorem proj_le {s : List UInt8} (h : projOk s = true) : s.length ≤ 40 := (name_iff.1 (proj_name h)).2.1
theorem Text_any (v : SVer) (w : World) (hv : VerOk w v) (hP : P10 w) :
    Calls Tryz.prog 19 #[v.val] w fun e w' => e = .returned (.tuple #[str (txtR v.says).1, .int .i64 (txtR v.says).2]) ∧ Below w.heap.size w w' := by
  have hlen := hv.ok.t.len
  have hq := hv.q
  have hia := Lib.itoa_length_le v.a hv.a.1 hv.a.2
  have hib := Lib.itoa_length_le v.b hv.b.1 hv.b.2
  have hic := Lib.itoa_length_le v.c hv.c.1 hv.c.2
  refine enter_args (args := [.agg #[str v.p, .int .i64 v.a, .int .i64 v.b, .int .i64 v.c, .slice v.pre.A v.pre.q v.pre.c]]) (F := _) Tryz.func19 rfl Tryz.ntmps19 rfl rfl ?_
  intro Rb hRb hRn
  refine T_seq ?_
  refine T_region ?_
  refine S_box 1 1 rfl rfl rfl rfl rfl ?_
  intro b1
  refine S_ 2 rfl rfl rfl _ (y_assign rfl rfl) ?_
  refine S_ 3 rfl rfl rfl _ (y_assign rfl rfl) ?_
  refine S_go (fun _ _ h => h) ?_
  refine T_seq ?_
  refine T_block ?_
  refine T_seq ?_
  refine T_region ?_
  refine S_ 6 rfl rfl rfl _ (y_fieldAddr rfl rfl fa42_0) ?_
  refine S_ 7 rfl rfl rfl _ (y_load 1 rfl rfl rfl rfl Tryz.underlying9 rfl) ?_
  refine S_ 8 rfl rfl rfl _ (y_call rfl rfl rfl cf86 (fun _ w _ => IsProject_any v.p w)) ?_
  refine S_ 9 rfl rfl rfl _ (y_not rfl rfl) ?_
  refine S_ 5 rfl rfl rfl _ (y_assign rfl rfl) ?_
  refine S_go (fun _ _ h => h) ?_
  refine T_cond rfl (fun h5 => ?_) (fun h5 => ?_)
  · skip
    have h5 : projOk v.says.p = false := by show projOk v.p = false; simpa using h5
    refine T_seq ?_
    refine T_region ?_
    refine S_ 2 rfl rfl rfl _ (y_assign rfl rfl) ?_
    refine S_ 3 rfl rfl rfl _ (y_assign rfl rfl) ?_
    refine S_go (fun _ _ h => h) ?_
    refine T_ret (fun a w hF hM => hRb a w (post2 rfl rfl rfl (fun w hM => ?_) a w hF hM))
    exact ⟨by rw [txtR, if_pos h5], hM.below⟩
  · skip
    have h5 : projOk v.p = true := by simpa using h5
    have hpl := proj_le h5
    refine T_seq ?_
    refine T_region ?_
    refine S_ 11 rfl rfl rfl _ (y_fieldAddr rfl rfl fa42_1) ?_
    refine S_ 12 rfl rfl rfl _ (y_load 1 rfl rfl rfl rfl Tryz.underlying3 rfl) ?_
    refine S_ 13 rfl rfl rfl _ (y_call rfl rfl rfl cf87 (fun _ w _ => routside_any _ _ _ w)) ?_
    refine S_ 14 rfl rfl rfl _ (y_move rfl rfl) ?_
    refine Sg_ 15 rfl rfl rfl rfl rfl rfl _ (y_fieldAddr rfl rfl fa42_2) ?_
    refine Sg_ 16 rfl rfl rfl rfl rfl rfl _ (y_load 1 rfl rfl rfl rfl Tryz.underlying3 rfl) ?_
    refine Sg_ 17 rfl rfl rfl rfl rfl rfl _ (y_call rfl rfl rfl cf87 (fun _ w _ => routside_any _ _ _ w)) ?_
    refine S_ 18 rfl rfl rfl _ (y_or rfl rfl rfl) ?_
    refine S_ 19 rfl rfl rfl _ (y_move rfl rfl) ?_
    refine Sg_ 20 rfl rfl rfl rfl rfl rfl _ (y_fieldAddr rfl rfl fa42_3) ?_
    refine Sg_ 21 rfl rfl rfl rfl rfl rfl _ (y_load 1 rfl rfl rfl rfl Tryz.underlying3 rfl) ?_
    refine Sg_ 22 rfl rfl rfl rfl rfl rfl _ (y_call rfl rfl rfl cf87 (fun _ w _ => routside_any _ _ _ w)) ?_
    refine S_ 23 rfl rfl rfl _ (y_or rfl rfl rfl) ?_
    refine S_ 10 rfl rfl rfl _ (y_assign rfl rfl) ?_
    refine S_go (fun _ _ h => h) ?_
    refine T_cond rfl (fun h10 => ?_) (fun h10 => ?_)
    · skip
      refine T_seq ?_
      refine T_region ?_
      refine S_ 2 rfl rfl rfl _ (y_assign rfl rfl) ?_
      refine S_ 3 rfl rfl rfl _ (y_assign rfl rfl) ?_
      refine S_go (fun _ _ h => h) ?_
      refine T_ret (fun a w hF hM => hRb a w (post2 rfl rfl rfl (fun w hM => ?_) a w hF hM))
      exact ⟨by rw [txtR, if_neg (by simp [SVer.says, h5]), if_pos (show (outB v.says.a 0 999999 || outB v.says.b 0 999999 || outB v.says.c 0 999999) = true from h10)], hM.below⟩
    · skip
      refine T_seq ?_
      refine T_region ?_
      refine S_ 25 rfl rfl rfl _ (y_fieldAddr rfl rfl fa42_4) ?_
      refine S_ 26 rfl rfl rfl _ (y_load 1 rfl rfl rfl rfl Tryz.underlying40 rfl) ?_
      refine S_ 27 rfl rfl rfl _ (y_len_slice rfl rfl Tryz.underlying40) ?_
      refine S_ 28 rfl rfl rfl _ (y_bin rfl rfl rfl (fun _ => b_gtr)) ?_
      refine S_ 24 rfl rfl rfl _ (y_assign rfl rfl) ?_
      refine S_go (fun _ _ h => h) ?_
      refine T_cond rfl (fun h24 => ?_) (fun h24 => ?_)
      · try simp only [decide_eq_true_eq, decide_eq_false_iff_not, Bool.or_eq_true, Bool.or_eq_false_iff, Bool.and_eq_true, Bool.and_eq_false_iff, Bool.not_eq_true', Bool.not_eq_false', Bool.not_eq_true, Bool.not_eq_false, Bool.not_true, Bool.not_false, Int.not_lt, Int.not_le, not_or, not_and, Classical.not_not] at h24
        refine T_seq ?_
        refine T_region ?_
        refine S_ 2 rfl rfl rfl _ (y_assign rfl rfl) ?_
        refine S_ 3 rfl rfl rfl _ (y_assign rfl rfl) ?_
        refine S_go (fun _ _ h => h) ?_
        refine T_ret (fun a w hF hM => hRb a w (post2 rfl rfl rfl (fun w hM => ?_) a w hF hM))
        exact ⟨by rw [txtR, if_neg (by simp [SVer.says, h5]), if_neg (by rw [show (outB v.says.a 0 999999 || outB v.says.b 0 999999 || outB v.says.c 0 999999) = false from h10]; exact Bool.false_ne_true), if_pos (by show (5 : Int) < v.pre.l.length; omega)], hM.below⟩
      · try simp only [decide_eq_true_eq, decide_eq_false_iff_not, Bool.or_eq_true, Bool.or_eq_false_iff, Bool.and_eq_true, Bool.and_eq_false_iff, Bool.not_eq_true', Bool.not_eq_false', Bool.not_eq_true, Bool.not_eq_false, Bool.not_true, Bool.not_false, Int.not_lt, Int.not_le, not_or, not_and, Classical.not_not] at h24
        have hjl := joinB_le (n := 1000000000) 46 v.pre.l hv.n
        have hjl : (Lib.join v.pre.l [46]).length ≤ 1000000001 * 5 := Nat.le_trans hjl (Nat.mul_le_mul_left _ (by omega))
        refine T_seq ?_
        refine T_region ?_
        refine S_ 30 rfl rfl rfl _ (y_fieldAddr rfl rfl fa42_4) ?_
        refine S_ 31 rfl rfl rfl _ (y_load 1 rfl rfl rfl rfl Tryz.underlying40 rfl) ?_
        refine S_ 32 rfl rfl rfl _ (y_call rfl rfl rfl cf38 (fun _ w hM => ContFS_any _ _ _ v.pre.l _ _ (fun p => !isPreB p) w (hv.ok.t.below hM.below) (by omega) cf88 fun x hx w1 _ => Text1_any x (hv.n x hx) w1)) ?_
        refine S_ 29 rfl rfl rfl _ (y_assign rfl rfl) ?_
        refine S_go (fun _ _ h => h) ?_
        refine T_cond rfl (fun h29 => ?_) (fun h29 => ?_)
        · skip
          refine T_seq ?_
          refine T_region ?_
          refine S_ 2 rfl rfl rfl _ (y_assign rfl rfl) ?_
          refine S_ 3 rfl rfl rfl _ (y_assign rfl rfl) ?_
          refine S_go (fun _ _ h => h) ?_
          refine T_ret (fun a w hF hM => hRb a w (post2 rfl rfl rfl (fun w hM => ?_) a w hF hM))
          exact ⟨by rw [txtR, if_neg (by simp [SVer.says, h5]), if_neg (by rw [show (outB v.says.a 0 999999 || outB v.says.b 0 999999 || outB v.says.c 0 999999) = false from h10]; exact Bool.false_ne_true), if_neg (by show ¬ (5 : Int) < v.pre.l.length; omega), if_pos (show badPre v.says.pre = true from h29)], hM.below⟩
        · skip
          refine T_skip_go (fun _ _ h => h) ?_
          refine T_seq ?_
          refine T_draws (by kernel_rfl) (by kernel_rfl) ?_
          refine D_ 33 rfl rfl rfl _ (y_fieldAddr rfl rfl fa42_0) ?_
          refine D_ 34 rfl rfl rfl _ (y_load 1 rfl rfl rfl rfl Tryz.underlying9 rfl) ?_
          refine D_ 35 rfl rfl rfl _ (y_bin rfl rfl rfl (fun hg => b_adds (by first | omega | (simp only [List.length_append, List.length_cons, List.length_nil]; omega)))) ?_
          refine D_ 36 rfl rfl rfl _ (y_fieldAddr rfl rfl fa42_1) ?_
          refine D_ 37 rfl rfl rfl _ (y_load 1 rfl rfl rfl rfl Tryz.underlying3 rfl) ?_
          refine D_ 38 rfl rfl rfl _ (y_call rfl rfl rfl cf90 (fun _ w hM => Itoa_any v.a hv.a.1 hv.a.2 w (hP.below hM.below))) ?_
          refine D_ 39 rfl rfl rfl _ (y_bin rfl rfl rfl (fun hg => b_adds (by first | omega | (simp only [List.length_append, List.length_cons, List.length_nil]; omega)))) ?_
          refine D_ 40 rfl rfl rfl _ (y_bin rfl rfl rfl (fun hg => b_adds (by first | omega | (simp only [List.length_append, List.length_cons, List.length_nil]; omega)))) ?_
          refine D_ 41 rfl rfl rfl _ (y_fieldAddr rfl rfl fa42_2) ?_
          refine D_ 42 rfl rfl rfl _ (y_load 1 rfl rfl rfl rfl Tryz.underlying3 rfl) ?_
          refine D_ 43 rfl rfl rfl _ (y_call rfl rfl rfl cf90 (fun _ w hM => Itoa_any v.b hv.b.1 hv.b.2 w (hP.below hM.below))) ?_
          refine D_ 44 rfl rfl rfl _ (y_bin rfl rfl rfl (fun hg => b_adds (by first | omega | (simp only [List.length_append, List.length_cons, List.length_nil]; omega)))) ?_
          refine D_ 45 rfl rfl rfl _ (y_bin rfl rfl rfl (fun hg => b_adds (by first | omega | (simp only [List.length_append, List.length_cons, List.length_nil]; omega)))) ?_
          refine D_ 46 rfl rfl rfl _ (y_fieldAddr rfl rfl fa42_3) ?_
          refine D_ 47 rfl rfl rfl _ (y_load 1 rfl rfl rfl rfl Tryz.underlying3 rfl) ?_
          refine D_ 48 rfl rfl rfl _ (y_call rfl rfl rfl cf90 (fun _ w hM => Itoa_any v.c hv.c.1 hv.c.2 w (hP.below hM.below))) ?_
          refine D_ 49 rfl rfl rfl _ (y_bin rfl rfl rfl (fun hg => b_adds (by first | omega | (simp only [List.length_append, List.length_cons, List.length_nil]; omega)))) ?_
          refine D_ 4 rfl rfl rfl _ (y_assign rfl rfl) ?_
          refine D_go (fun _ _ h => h) ?_
          refine T_seq ?_
          refine T_seq ?_
          refine T_region ?_
          refine S_ 50 rfl rfl rfl _ (y_fieldAddr rfl rfl fa42_4) ?_
          refine S_ 51 rfl rfl rfl _ (y_load 1 rfl rfl rfl rfl Tryz.underlying40 rfl) ?_
          refine S_ 52 rfl rfl rfl _ (y_len_slice rfl rfl Tryz.underlying40) ?_
          refine S_ 53 rfl rfl rfl _ (y_bin rfl rfl rfl (fun _ => b_gtr)) ?_
          refine S_go (fun _ _ h => h) ?_
          refine T_cond rfl (fun h53 => ?_) (fun h53 => ?_)
          · try simp only [decide_eq_true_eq, decide_eq_false_iff_not, Bool.or_eq_true, Bool.or_eq_false_iff, Bool.and_eq_true, Bool.and_eq_false_iff, Bool.not_eq_true', Bool.not_eq_false', Bool.not_eq_true, Bool.not_eq_false, Bool.not_true, Bool.not_false, Int.not_lt, Int.not_le, not_or, not_and, Classical.not_not] at h53
            have hne : ¬ v.pre.l = [] := fun e => by rw [e] at hlen; simp at hlen; omega
            refine T_region ?_
            refine S_ 54 rfl rfl rfl _ (y_move rfl rfl) ?_
            refine S_ 55 rfl rfl rfl _ (y_fieldAddr rfl rfl fa42_4) ?_
            refine S_ 56 rfl rfl rfl _ (y_load 1 rfl rfl rfl rfl Tryz.underlying40 rfl) ?_
            refine S_ 57 rfl rfl rfl _ (y_call rfl rfl rfl cf91 (fun _ w hM => JoinD_any _ _ _ v.pre.l w (hv.ok.t.below hM.below) (by omega) hv.ok.cap (by omega) (by omega))) ?_
            refine S_ 58 rfl rfl rfl _ (y_bin rfl rfl rfl (fun hg => b_adds (by first | omega | (simp only [List.length_append, List.length_cons, List.length_nil]; omega)))) ?_
            refine S_ 59 rfl rfl rfl _ (y_as (v' := str (verT v.says)) (by rw [verT, if_neg (show ¬ v.says.pre = [] from hne)]; rfl) (y_bin rfl rfl rfl (fun hg => b_adds (by first | omega | (simp only [List.length_append, List.length_cons, List.length_nil]; omega))))) ?_
            refine S_ 4 rfl rfl rfl _ (y_assign rfl rfl) ?_
            refine S_go (fun _ _ h => h) ?_
            refine T_seq ?_
            refine T_seq ?_
            refine T_region ?_
            refine S_ 60 rfl rfl rfl _ (y_as (v' := str (verT v.says)) (by exact rfl) (y_move rfl rfl)) ?_
            refine S_ 61 rfl rfl rfl _ (y_len_str rfl rfl Tryz.underlying9) ?_
            refine S_ 62 rfl rfl rfl _ (y_bin rfl rfl rfl (fun _ => b_gtr)) ?_
            refine S_go (fun _ _ h => h) ?_
            refine T_cond rfl (fun h62 => ?_) (fun h62 => ?_)
            · try simp only [decide_eq_true_eq, decide_eq_false_iff_not, Bool.or_eq_true, Bool.or_eq_false_iff, Bool.and_eq_true, Bool.and_eq_false_iff, Bool.not_eq_true', Bool.not_eq_false', Bool.not_eq_true, Bool.not_eq_false, Bool.not_true, Bool.not_false, Int.not_lt, Int.not_le, not_or, not_and, Classical.not_not] at h62
              refine T_seq ?_
              refine T_region ?_
              refine S_ 2 rfl rfl rfl _ (y_assign rfl rfl) ?_
              refine S_ 3 rfl rfl rfl _ (y_assign rfl rfl) ?_
              refine S_go (fun _ _ h => h) ?_
              refine T_ret (fun a w hF hM => hRb a w (post2 rfl rfl rfl (fun w hM => ?_) a w hF hM))
              exact ⟨by rw [txtR, if_neg (by simp [SVer.says, h5]), if_neg (by rw [show (outB v.says.a 0 999999 || outB v.says.b 0 999999 || outB v.says.c 0 999999) = false from h10]; exact Bool.false_ne_true), if_neg (by show ¬ (5 : Int) < v.pre.l.length; omega), if_neg (by rw [show badPre v.says.pre = false from h29]; exact Bool.false_ne_true), if_pos (by omega)], hM.below⟩
            · try simp only [decide_eq_true_eq, decide_eq_false_iff_not, Bool.or_eq_true, Bool.or_eq_false_iff, Bool.and_eq_true, Bool.and_eq_false_iff, Bool.not_eq_true', Bool.not_eq_false', Bool.not_eq_true, Bool.not_eq_false, Bool.not_true, Bool.not_false, Int.not_lt, Int.not_le, not_or, not_and, Classical.not_not] at h62
              refine T_skip_go (fun _ _ h => h) ?_
              refine T_seq ?_
              refine T_region ?_
              refine S_ 63 rfl rfl rfl _ (y_as (v' := str (verT v.says)) (by exact rfl) (y_move rfl rfl)) ?_
              refine S_ 2 rfl rfl rfl _ (y_assign rfl rfl) ?_
              refine S_ 3 rfl rfl rfl _ (y_assign rfl rfl) ?_
              refine S_go (fun _ _ h => h) ?_
              refine T_ret (fun a w hF hM => hRb a w (post2 rfl rfl rfl (fun w hM => ?_) a w hF hM))
              exact ⟨by rw [txtR, if_neg (by simp [SVer.says, h5]), if_neg (by rw [show (outB v.says.a 0 999999 || outB v.says.b 0 999999 || outB v.says.c 0 999999) = false from h10]; exact Bool.false_ne_true), if_neg (by show ¬ (5 : Int) < v.pre.l.length; omega), if_neg (by rw [show badPre v.says.pre = false from h29]; exact Bool.false_ne_true), if_neg (by omega)], hM.below⟩
          · try simp only [decide_eq_true_eq, decide_eq_false_iff_not, Bool.or_eq_true, Bool.or_eq_false_iff, Bool.and_eq_true, Bool.and_eq_false_iff, Bool.not_eq_true', Bool.not_eq_false', Bool.not_eq_true, Bool.not_eq_false, Bool.not_true, Bool.not_false, Int.not_lt, Int.not_le, not_or, not_and, Classical.not_not] at h53
            have hne : v.pre.l = [] := List.eq_nil_of_length_eq_zero (by omega)
            refine T_skip_go (fun _ _ h => h) ?_
            refine T_seq ?_
            refine T_seq ?_
            refine T_region ?_
            refine S_ 60 rfl rfl rfl _ (y_as (v' := str (verT v.says)) (by rw [verT, if_pos (show v.says.pre = [] from hne), List.append_nil]; rfl) (y_move rfl rfl)) ?_
            refine S_ 61 rfl rfl rfl _ (y_len_str rfl rfl Tryz.underlying9) ?_
            refine S_ 62 rfl rfl rfl _ (y_bin rfl rfl rfl (fun _ => b_gtr)) ?_
            refine S_go (fun _ _ h => h) ?_
            refine T_cond rfl (fun h62 => ?_) (fun h62 => ?_)
            · try simp only [decide_eq_true_eq, decide_eq_false_iff_not, Bool.or_eq_true, Bool.or_eq_false_iff, Bool.and_eq_true, Bool.and_eq_false_iff, Bool.not_eq_true', Bool.not_eq_false', Bool.not_eq_true, Bool.not_eq_false, Bool.not_true, Bool.not_false, Int.not_lt, Int.not_le, not_or, not_and, Classical.not_not] at h62
              refine T_seq ?_
              refine T_region ?_
              refine S_ 2 rfl rfl rfl _ (y_assign rfl rfl) ?_
              refine S_ 3 rfl rfl rfl _ (y_assign rfl rfl) ?_
              refine S_go (fun _ _ h => h) ?_
              refine T_ret (fun a w hF hM => hRb a w (post2 rfl rfl rfl (fun w hM => ?_) a w hF hM))
              exact ⟨by rw [txtR, if_neg (by simp [SVer.says, h5]), if_neg (by rw [show (outB v.says.a 0 999999 || outB v.says.b 0 999999 || outB v.says.c 0 999999) = false from h10]; exact Bool.false_ne_true), if_neg (by show ¬ (5 : Int) < v.pre.l.length; omega), if_neg (by rw [show badPre v.says.pre = false from h29]; exact Bool.false_ne_true), if_pos (by omega)], hM.below⟩
            · try simp only [decide_eq_true_eq, decide_eq_false_iff_not, Bool.or_eq_true, Bool.or_eq_false_iff, Bool.and_eq_true, Bool.and_eq_false_iff, Bool.not_eq_true', Bool.not_eq_false', Bool.not_eq_true, Bool.not_eq_false, Bool.not_true, Bool.not_false, Int.not_lt, Int.not_le, not_or, not_and, Classical.not_not] at h62
              refine T_skip_go (fun _ _ h => h) ?_
              refine T_seq ?_
              refine T_region ?_
              refine S_ 63 rfl rfl rfl _ (y_as (v' := str (verT v.says)) (by rw [verT, if_pos (show v.says.pre = [] from hne), List.append_nil]; rfl) (y_move rfl rfl)) ?_
              refine S_ 2 rfl rfl rfl _ (y_assign rfl rfl) ?_
              refine S_ 3 rfl rfl rfl _ (y_assign rfl rfl) ?_
              refine S_go (fun _ _ h => h) ?_
              refine T_ret (fun a w hF hM => hRb a w (post2 rfl rfl rfl (fun w hM => ?_) a w hF hM))
              exact ⟨by rw [txtR, if_neg (by simp [SVer.says, h5]), if_neg (by rw [show (outB v.says.a 0 999999 || outB v.says.b 0 999999 || outB v.says.c 0 999999) = false from h10]; exact Bool.false_ne_true), if_neg (by show ¬ (5 : Int) < v.pre.l.length; omega), if_neg (by rw [show badPre v.says.pre = false from h29]; exact Bool.false_ne_true), if_neg (by omega)], hM.below⟩
/-! ### What parse makes, as it lies -/
def svr (p : PVer) (A : Option Addr) (c : Nat) : SVer := ⟨p.p, p.a, p.b, p.c, ⟨A, p.pre.length, c, p.pre⟩⟩
structure PBound (p : PVer) : Prop where
  n : p.pre.length ≤ 41
  s : ∀ s ∈ p.pre, s.length ≤ 40
  r : p.p.length ≤ 40
  a : 0 ≤ p.a ∧ p.a ≤ 999999
  b : 0 ≤ p.b ∧ p.b ≤ 999999
  c : 0 ≤ p.c ∧ p.c ≤ 999999
theorem pver0_bound : PBound pver0 := ⟨Nat.zero_le _, fun s h => (by cases h), Nat.zero_le _, ⟨Int.le_refl _, by decide⟩, ⟨Int.le_refl _, by decide⟩, ⟨Int.le_refl _, by decide⟩⟩
theorem verV_bound {s : List UInt8} (h : s.length ≤ 40) : PBound (verV s) := by
  have hr : (rsS s).length ≤ 40 := by rw [rsS, List.length_drop]; omega
  have hc := cut_le 45 (rsS s)
  have hn : ∀ w, 0 ≤ numI w ∧ numI w ≤ 999999 := by
    intro w
    unfold numI
    split
    · rename_i hw
      have := (numOk_val hw).2
      omega
    · omega
  refine ⟨?_, fun x hx => ?_, by show (prS s).length ≤ 40; rw [prS, List.length_take]; omega, hn _, hn _, hn _⟩
  · show (preS s).length ≤ 41
    unfold preS
    split
    · exact split_len40 (by omega)
    · exact Nat.zero_le _
  · have hx : x ∈ preS s := hx
    unfold preS at hx
    split at hx
    · have := spl_le 46 _ x hx; omega
    · cases hx
theorem parseR_bound (s : List UInt8) : PBound (parseR s).1 := by
  unfold parseR
  split
  · exact pver0_bound
  · rename_i h
    simp only [Bool.or_eq_true, decide_eq_true_eq, not_or] at h
    split
    · exact pver0_bound
    · split
      · exact pver0_bound
      · exact verV_bound (by omega)
theorem rel_len {s : List UInt8} (h : relOk s = true) : s.length ≤ 40 := ((parse_iff s).1 h).2.1
theorem parE_bound (s : List UInt8) : PBound (parE s).1 := by
  unfold parE
  split
  · rename_i h; exact verV_bound (rel_len h)
  · exact pver0_bound
theorem svr_ok {w : World} {p : PVer} {A : Option Addr} {c : Nat} (hp : PBound p) (h : Sl.Ok strE 1 w ⟨A, p.pre.length, c, p.pre⟩) : VerOk w (svr p A c) := by
  have h1 := hp.a
  have h2 := hp.b
  have h3 := hp.c
  exact ⟨h, Nat.le_trans hp.n (by decide), fun s hs => Nat.le_trans (hp.s s hs) (by decide), Nat.le_trans hp.r (by decide), by show _ ≤ p.a ∧ p.a ≤ _; omega, by show _ ≤ p.b ∧ p.b ≤ _; omega, by show _ ≤ p.c ∧ p.c ≤ _; omega⟩
end Go.Proofs.YtpmlgnbbkpplhaaGreatDoor
end
