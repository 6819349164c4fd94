/- Versions compared, in plain lists: the order is total up to equal right versions; texts and versions go to and fro. No program in sight. -/
import Derived.Test.YtpmlgnbbkpplhaaGreatDoorVPln
import Derived.Test.YtpmlgnbbkpplhaaGreatDoorECmp
import Derived.Sort.Walk0
namespace Go.Proofs.YtpmlgnbbkpplhaaGreatDoor
set_option linter.unusedSimpArgs false
set_option linter.unusedVariables false
set_option maxRecDepth 20000
open Go.RowKit Go.Eng
/-! ### Three-way comparing -/
structure Cmp3 {α : Type} (f : α → α → Int) : Prop where
  anti : ∀ a b, f b a = -f a b
  tr : ∀ a b c, f a b ≤ 0 → f b c ≤ 0 → f a c ≤ 0
section
variable {α β : Type} {f g : α → α → Int}
theorem Cmp3.refl (h : Cmp3 f) (a : α) : f a a = 0 := by have := h.anti a a; omega
theorem Cmp3.lt_le (h : Cmp3 f) {a b c : α} (h1 : f a b < 0) (h2 : f b c ≤ 0) : f a c < 0 := by
  by_cases h3 : f a c < 0
  · exact h3
  · have h4 := h.anti a c
    have h5 := h.tr b c a h2 (by omega)
    have h6 := h.anti a b
    omega
theorem Cmp3.le_lt (h : Cmp3 f) {a b c : α} (h1 : f a b ≤ 0) (h2 : f b c < 0) : f a c < 0 := by
  by_cases h3 : f a c < 0
  · exact h3
  · have h4 := h.anti a c
    have h5 := h.tr c a b (by omega) h1
    have h6 := h.anti b c
    omega
theorem Cmp3.zero (h : Cmp3 f) {a b c : α} (h1 : f a b = 0) (h2 : f b c = 0) : f a c = 0 := by
  have h3 := h.tr a b c (by omega) (by omega)
  have h4 := h.anti a b
  have h5 := h.anti b c
  have h6 := h.tr c b a (by omega) (by omega)
  have h7 := h.anti a c
  omega
theorem Cmp3.comap (h : Cmp3 f) (k : β → α) : Cmp3 fun x y => f (k x) (k y) := ⟨fun _ _ => h.anti _ _, fun _ _ _ => h.tr _ _ _⟩
theorem cmp3_lex (hf : Cmp3 f) (hg : Cmp3 g) : Cmp3 fun a b => if f a b ≠ 0 then f a b else g a b := by
  constructor
  · intro a b
    have h1 := hf.anti a b
    have h2 := hg.anti a b
    show (if f b a ≠ 0 then f b a else g b a) = -(if f a b ≠ 0 then f a b else g a b)
    by_cases h : f a b = 0
    · rw [if_neg (by omega), if_neg (by omega)]; exact h2
    · rw [if_pos (by omega), if_pos h]; exact h1
  · intro a b c h1 h2
    have h1 : (if f a b ≠ 0 then f a b else g a b) ≤ 0 := h1
    have h2 : (if f b c ≠ 0 then f b c else g b c) ≤ 0 := h2
    show (if f a c ≠ 0 then f a c else g a c) ≤ 0
    by_cases ha : f a b = 0
    · rw [if_neg (by omega)] at h1
      by_cases hb : f b c = 0
      · rw [if_neg (by omega)] at h2
        rw [if_neg (by have := hf.zero ha hb; omega)]; exact hg.tr _ _ _ h1 h2
      · rw [if_pos hb] at h2
        have := hf.le_lt (a := a) (b := b) (c := c) (by omega) (by omega)
        rw [if_pos (by omega)]; omega
    · rw [if_pos ha] at h1
      have hb : f b c ≤ 0 := by
        by_cases hb : f b c = 0
        · omega
        · rw [if_pos hb] at h2; exact h2
      have := hf.lt_le (a := a) (b := b) (c := c) (by omega) hb
      rw [if_pos (by omega)]; omega
def cmpL (f : α → α → Int) : List α → List α → Int
  | [], [] => 0
  | [], _ :: _ => -1
  | _ :: _, [] => 1
  | a :: r, b :: s => if f a b ≠ 0 then f a b else cmpL f r s
theorem cmpL_anti (hf : Cmp3 f) : ∀ x y : List α, cmpL f y x = -cmpL f x y
  | [], [] => rfl
  | [], _ :: _ => rfl
  | _ :: _, [] => rfl
  | a :: r, b :: s => by
    have h1 := hf.anti a b
    have h2 := cmpL_anti hf r s
    rw [cmpL, cmpL]
    by_cases h : f a b = 0
    · rw [if_neg (by omega), if_neg (by omega)]; exact h2
    · rw [if_pos (by omega), if_pos h]; exact h1
theorem cmpL_tr (hf : Cmp3 f) : ∀ x y z : List α, cmpL f x y ≤ 0 → cmpL f y z ≤ 0 → cmpL f x z ≤ 0
  | [], _, [], _, _ => Int.le_refl _
  | [], _, _ :: _, _, _ => by show (-1 : Int) ≤ 0; omega
  | _ :: _, [], _, h, _ => by have h : (1 : Int) ≤ 0 := h; omega
  | _ :: _, _ :: _, [], _, h => by have h : (1 : Int) ≤ 0 := h; omega
  | a :: r, b :: s, c :: t, h1, h2 => by
    rw [cmpL] at h1 h2 ⊢
    by_cases ha : f a b = 0
    · rw [if_neg (by omega)] at h1
      by_cases hb : f b c = 0
      · rw [if_neg (by omega)] at h2
        rw [if_neg (by have := hf.zero ha hb; omega)]; exact cmpL_tr hf r s t h1 h2
      · rw [if_pos hb] at h2
        have := hf.le_lt (a := a) (b := b) (c := c) (by omega) (by omega)
        rw [if_pos (by omega)]; omega
    · rw [if_pos ha] at h1
      have hb : f b c ≤ 0 := by
        by_cases hb : f b c = 0
        · omega
        · rw [if_pos hb] at h2; exact h2
      have := hf.lt_le (a := a) (b := b) (c := c) (by omega) hb
      rw [if_pos (by omega)]; omega
theorem cmp3_list (hf : Cmp3 f) : Cmp3 (cmpL f) := ⟨cmpL_anti hf, cmpL_tr hf⟩
end
theorem cmp3_J : Cmp3 cmpJ := by
  constructor
  · intro a b; unfold cmpJ; split <;> split <;> (try split) <;> omega
  · intro a b c h1 h2
    unfold cmpJ at *
    split at h1 <;> split at h2 <;> split <;> (try split) <;> (try split at h1) <;> (try split at h2) <;> omega
theorem bl_irr (a : List UInt8) : ¬ a < a := List.lt_irrefl a
theorem bl_tr {a b c : List UInt8} (h1 : a < b) (h2 : b < c) : a < c := List.lt_trans h1 h2
theorem bl_tot {a b : List UInt8} (h1 : ¬ a < b) (h2 : ¬ b < a) : a = b := List.le_antisymm (List.not_lt.1 h2) (List.not_lt.1 h1)
theorem cmpB_lt (a b : List UInt8) : cmpB a b = if a < b then -1 else if a = b then 0 else 1 := by
  unfold cmpB
  rw [Go.Proofs.bytesLess_eq]
  simp only [decide_eq_true_eq]
theorem cmpB_zero {a b : List UInt8} (h : cmpB a b = 0) : a = b := by
  rw [cmpB_lt] at h
  split at h
  · omega
  · split at h
    · assumption
    · omega
theorem cmpB_le {a b : List UInt8} : cmpB a b ≤ 0 ↔ ¬ b < a := by
  rw [cmpB_lt]
  by_cases h1 : a < b
  · rw [if_pos h1]; exact ⟨fun _ h => bl_irr _ (bl_tr h1 h), fun _ => by omega⟩
  · rw [if_neg h1]
    by_cases h2 : a = b
    · rw [if_pos h2]; subst h2; exact ⟨fun _ => bl_irr _, fun _ => by omega⟩
    · rw [if_neg h2]; exact ⟨fun h => by omega, fun h => absurd (bl_tot h1 h) h2⟩
theorem cmp3_B : Cmp3 cmpB := by
  constructor
  · intro a b
    rw [cmpB_lt, cmpB_lt]
    by_cases h1 : a < b
    · rw [if_pos h1, if_neg (fun h => bl_irr _ (bl_tr h1 h)), if_neg (fun e => by subst e; exact bl_irr _ h1)]; rfl
    · by_cases h2 : a = b
      · subst h2; rw [if_neg h1, if_pos rfl]; rfl
      · have h3 : b < a := by
          by_cases h3 : b < a
          · exact h3
          · exact absurd (bl_tot h1 h3) h2
        rw [if_pos h3, if_neg h1, if_neg h2]
  · intro a b c h1 h2
    rw [cmpB_le] at *
    intro h
    by_cases h3 : b < c
    · exact h1 (bl_tr h3 h)
    · rw [bl_tot h3 h2] at h1; exact h1 h
/-! ### Versions -/
def ptNum (s : List UInt8) : Bool := allOf s digB && decide ((s.length : Int) ≤ 6)
def cmpPart (x y : List UInt8) : Int := if (ptNum x && ptNum y) = true then cmpJ (valD x : Nat) (valD y : Nat) else if ptNum x = true then -1 else if ptNum y = true then 1 else cmpB x y
theorem cmp3_part : Cmp3 cmpPart := by
  constructor
  · intro x y
    unfold cmpPart
    cases ptNum x <;> cases ptNum y
    · exact cmp3_B.anti x y
    · rfl
    · rfl
    · exact cmp3_J.anti _ _
  · intro x y z h1 h2
    unfold cmpPart at *
    cases hx : ptNum x <;> cases hy : ptNum y <;> cases hz : ptNum z <;> simp only [hx, hy, hz, Bool.and_self, Bool.and_false, Bool.false_and, Bool.true_and, if_true, if_false, Bool.false_eq_true] at h1 h2 ⊢ <;> (try omega)
    · exact cmp3_B.tr _ _ _ h1 h2
    · exact cmp3_J.tr _ _ _ h1 h2
def cmpPre (x y : List (List UInt8)) : Int := if x = [] then (if y = [] then 0 else 1) else if y = [] then -1 else cmpL cmpPart x y
theorem cmp3_pre : Cmp3 cmpPre := by
  have h := cmp3_list cmp3_part
  constructor
  · intro x y
    unfold cmpPre
    by_cases h1 : x = [] <;> by_cases h2 : y = [] <;> simp only [h1, h2, if_true, if_false] <;> (try rfl)
    exact h.anti x y
  · intro x y z a b
    unfold cmpPre at *
    by_cases h1 : x = [] <;> by_cases h2 : y = [] <;> by_cases h3 : z = [] <;> simp only [h1, h2, h3, if_true, if_false] at a b ⊢ <;> (try omega)
    exact h.tr x y z a b
def or4 (a b c d : Int) : Int := if a ≠ 0 then a else if b ≠ 0 then b else if c ≠ 0 then c else d
def headC (x y : PVer) : Int := or4 (cmpB x.p y.p) (cmpJ x.a y.a) (cmpJ x.b y.b) (cmpJ x.c y.c)
def cmpV (x y : PVer) : Int := if headC x y ≠ 0 then headC x y else cmpPre x.pre y.pre
theorem cmp3_V : Cmp3 cmpV :=
  cmp3_lex (cmp3_lex (cmp3_B.comap PVer.p) (cmp3_lex (cmp3_J.comap PVer.a) (cmp3_lex (cmp3_J.comap PVer.b) (cmp3_J.comap PVer.c)))) (cmp3_pre.comap PVer.pre)
/-! ### Numbers -/
theorem ofNat_dig {n : Nat} (h : n < 10) : (UInt8.ofNat (48 + n)).toNat = 48 + n := by simp; omega
theorem snoc_ind {α : Type} {P : List α → Prop} (h0 : P []) (h1 : ∀ l a, P l → P (l ++ [a])) (l : List α) : P l := by
  have h : ∀ m : List α, P m.reverse := by
    intro m
    induction m with
    | nil => exact h0
    | cons a r ih => rw [List.reverse_cons]; exact h1 _ _ ih
  have := h l.reverse
  rwa [List.reverse_reverse] at this
theorem dec_val (s : List UInt8) : s ≠ [] → (∀ c ∈ s, 48 ≤ c.toNat ∧ c.toNat ≤ 57) → (1 < s.length → (s.getD 0 0).toNat ≠ 48) → Lib.decDigits (valD s) = s ∧ ((s.getD 0 0).toNat ≠ 48 → 0 < valD s) := by
  refine snoc_ind (P := fun s => s ≠ [] → (∀ c ∈ s, 48 ≤ c.toNat ∧ c.toNat ≤ 57) → (1 < s.length → (s.getD 0 0).toNat ≠ 48) → Lib.decDigits (valD s) = s ∧ ((s.getD 0 0).toNat ≠ 48 → 0 < valD s)) (fun h => absurd rfl h) ?_ s
  intro l a ih _ hd hz
  have ha := hd a (List.mem_append_right _ (List.mem_singleton.2 rfl))
  have hc : UInt8.ofNat (48 + (a.toNat - 48)) = a := UInt8.toNat_inj.1 (by rw [ofNat_dig (by omega)]; omega)
  by_cases h0 : l = []
  · subst h0
    have e : valD ([] ++ [a]) = a.toNat - 48 := by rw [valD_snoc]; show 0 * 10 + _ = _; omega
    rw [e, Lib.decDigits_one (by omega), hc]
    exact ⟨rfl, fun h => by have h : a.toNat ≠ 48 := h; omega⟩
  · have hl : 0 < l.length := List.length_pos_iff.2 h0
    have hg : (l ++ [a]).getD 0 0 = l.getD 0 0 := by
      cases l with
      | nil => exact absurd rfl h0
      | cons x r => rfl
    have hz1 : (l.getD 0 0).toNat ≠ 48 := by rw [← hg]; exact hz (by rw [List.length_append, List.length_singleton]; omega)
    obtain ⟨i1, i2⟩ := ih h0 (fun c hc => hd c (List.mem_append_left _ hc)) fun _ => hz1
    have i3 := i2 hz1
    rw [valD_snoc]
    refine ⟨?_, fun _ => by omega⟩
    rw [Lib.decDigits, dif_neg (by omega), show (valD l * 10 + (a.toNat - 48)) / 10 = valD l by omega, show (valD l * 10 + (a.toNat - 48)) % 10 = a.toNat - 48 by omega, i1, hc]
theorem val_dec (u : Nat) : valD (Lib.decDigits u) = u ∧ Lib.decDigits u ≠ [] ∧ (∀ c ∈ Lib.decDigits u, digB.contains c = true) ∧ (1 ≤ u → ((Lib.decDigits u).getD 0 0).toNat ≠ 48) := by
  induction u using Nat.strongRecOn with
  | _ u ih =>
    have hd : ∀ n : Nat, n < 10 → digB.contains (UInt8.ofNat (48 + n)) = true := by decide
    by_cases h : u < 10
    · rw [Lib.decDigits_one h]
      refine ⟨?_, by simp, fun c hc => ?_, fun h1 => ?_⟩
      · show 0 * 10 + ((UInt8.ofNat (48 + u)).toNat - 48) = u
        rw [ofNat_dig h]; omega
      · rw [List.mem_singleton.1 hc]; exact hd u h
      · show (UInt8.ofNat (48 + u)).toNat ≠ 48
        rw [ofNat_dig h]; omega
    · obtain ⟨i1, i2, i3, i4⟩ := ih (u / 10) (by omega)
      rw [Lib.decDigits, dif_neg h]
      refine ⟨?_, by simp, fun c hc => ?_, fun _ => ?_⟩
      · rw [valD_snoc, i1, ofNat_dig (by omega)]; omega
      · rcases List.mem_append.1 hc with hc | hc
        · exact i3 c hc
        · rw [List.mem_singleton.1 hc]; exact hd _ (by omega)
      · have := i4 (by omega)
        cases hq : Lib.decDigits (u / 10) with
        | nil => exact absurd hq i2
        | cons x r => rw [hq] at this; exact this
theorem dec_len : ∀ (k u : Nat), u < 10 ^ (k + 1) → (Lib.decDigits u).length ≤ k + 1
  | 0, u, h => by rw [Lib.decDigits_one (by omega)]; exact Nat.le_refl _
  | k + 1, u, h => by
    by_cases hu : u < 10
    · rw [Lib.decDigits_one hu]; simp
    · rw [Lib.decDigits, dif_neg hu, List.length_append]
      have := dec_len k (u / 10) (by rw [Nat.div_lt_iff_lt_mul (by decide)]; rw [Nat.pow_succ] at h; exact h)
      simp only [List.length_cons, List.length_nil]; omega
theorem numOk_val {s : List UInt8} (h : numOk s = true) : Lib.decDigits (valD s) = s ∧ valD s ≤ 999999 := by
  have hd := allOf_dig (s := s) (by simp only [numOk, Bool.and_eq_true] at h; exact h.1.1)
  simp only [numOk, Bool.and_eq_true, Bool.not_eq_true', decide_eq_false_iff_not, Bool.and_eq_false_iff] at h
  have h1 := (dec_val s hd.1 hd.2 (fun hl hz => by rcases h.2 with h2 | h2 <;> omega)).1
  have hb : ∀ (l : List UInt8), (∀ c ∈ l, 48 ≤ c.toNat ∧ c.toNat ≤ 57) → valD l < 10 ^ l.length := by
    intro l
    refine snoc_ind (P := fun l => (∀ c ∈ l, 48 ≤ c.toNat ∧ c.toNat ≤ 57) → valD l < 10 ^ l.length) (fun _ => by show 0 < 10 ^ 0; decide) ?_ l
    intro l a ih hl
    have := ih fun c hc => hl c (List.mem_append_left _ hc)
    have ha := hl a (List.mem_append_right _ (List.mem_singleton.2 rfl))
    rw [valD_snoc, List.length_append, List.length_singleton, Nat.pow_succ]; omega
  have h2 := hb s hd.2
  have h3 : 10 ^ s.length ≤ 10 ^ 6 := Nat.pow_le_pow_right (by decide) (by omega)
  exact ⟨h1, by omega⟩
theorem dec_num {u : Nat} (h : u ≤ 999999) : numOk (Lib.decDigits u) = true := by
  obtain ⟨h1, h2, h3, h4⟩ := val_dec u
  have hl := dec_len 5 u (by omega)
  have h5 : allOf (Lib.decDigits u) digB = true := allOf_iff.2 ⟨h2, h3⟩
  simp only [numOk, Bool.and_eq_true, Bool.not_eq_true', decide_eq_false_iff_not, Bool.and_eq_false_iff]
  refine ⟨⟨h5, by omega⟩, ?_⟩
  by_cases hu : 1 ≤ u
  · right; have := h4 hu; omega
  · left
    rw [show u = 0 by omega, Lib.decDigits_one (by omega)]; simp
/-! ### Right versions -/
structure VRight (v : PVer) : Prop where
  p : projOk v.p = true
  a : 0 ≤ v.a ∧ v.a ≤ 999999
  b : 0 ≤ v.b ∧ v.b ≤ 999999
  c : 0 ≤ v.c ∧ v.c ≤ 999999
  n : v.pre.length ≤ 5
  pre : ∀ p ∈ v.pre, isPreB p = true
theorem part_zero {x y : List UInt8} (hx : isPreB x = true) (hy : isPreB y = true) (h : cmpPart x y = 0) : x = y := by
  have hn : ∀ z, isPreB z = true → ptNum z = true → numOk z = true := by
    intro z hz hp
    simp only [ptNum, Bool.and_eq_true] at hp
    unfold isPreB at hz
    rwa [if_pos hp.1] at hz
  unfold cmpPart at h
  cases h1 : ptNum x <;> cases h2 : ptNum y <;> simp only [h1, h2, Bool.and_self, Bool.and_false, Bool.false_and, Bool.true_and, if_true, if_false, Bool.false_eq_true] at h
  · exact cmpB_zero h
  · omega
  · omega
  · have e : valD x = valD y := by unfold cmpJ at h; split at h <;> (try split at h) <;> omega
    rw [← (numOk_val (hn x hx h1)).1, ← (numOk_val (hn y hy h2)).1, e]
theorem cmpL_zero : ∀ {x y : List (List UInt8)}, (∀ p ∈ x, isPreB p = true) → (∀ p ∈ y, isPreB p = true) → cmpL cmpPart x y = 0 → x = y
  | [], [], _, _, _ => rfl
  | [], _ :: _, _, _, h => by have h : (-1 : Int) = 0 := h; omega
  | _ :: _, [], _, _, h => by have h : (1 : Int) = 0 := h; omega
  | a :: r, b :: s, hx, hy, h => by
    rw [cmpL] at h
    split at h
    · omega
    · rename_i h0
      rw [part_zero (hx a (List.mem_cons_self ..)) (hy b (List.mem_cons_self ..)) (by omega), cmpL_zero (fun p hp => hx p (List.mem_cons_of_mem _ hp)) (fun p hp => hy p (List.mem_cons_of_mem _ hp)) h]
theorem cmpJ_zero {x y : Int} (h : cmpJ x y = 0) : x = y := by unfold cmpJ at h; split at h <;> (try split at h) <;> omega
theorem cmpV_zero {x y : PVer} (hx : VRight x) (hy : VRight y) (h : cmpV x y = 0) : x = y := by
  unfold cmpV at h
  split at h
  · omega
  · rename_i h0
    have h0 : headC x y = 0 := by omega
    unfold headC or4 at h0
    split at h0
    · omega
    · rename_i e1
      split at h0
      · omega
      · rename_i e2
        split at h0
        · omega
        · rename_i e3
          have e1 := cmpB_zero (show cmpB x.p y.p = 0 by omega)
          have e2 := cmpJ_zero (show cmpJ x.a y.a = 0 by omega)
          have e3 := cmpJ_zero (show cmpJ x.b y.b = 0 by omega)
          have e4 := cmpJ_zero h0
          have e5 : x.pre = y.pre := by
            unfold cmpPre at h
            split at h
            · split at h
              · rename_i a b; rw [a, b]
              · omega
            · split at h
              · omega
              · exact cmpL_zero hx.pre hy.pre h
          cases x; cases y; simp_all
/-! ### Texts -/
def verT (v : PVer) : List UInt8 := v.p ++ [45] ++ Lib.itoa v.a ++ [46] ++ Lib.itoa v.b ++ [46] ++ Lib.itoa v.c ++ (if v.pre = [] then [] else [45] ++ Lib.join v.pre [46])
theorem itoa_nat {n : Int} (h : 0 ≤ n) : Lib.itoa n = Lib.decDigits n.toNat := by
  obtain ⟨u, rfl⟩ : ∃ u : Nat, n = u := ⟨n.toNat, by omega⟩
  rw [Lib.itoa_nonneg, Int.toNat_natCast]
theorem itoa_numI {s : List UInt8} (h : numOk s = true) : Lib.itoa (numI s) = s := by
  unfold numI
  rw [if_pos h, Lib.itoa_nonneg, (numOk_val h).1]
theorem verT_jn (v : PVer) : verT v = v.p ++ 45 :: (jn 46 [Lib.itoa v.a, Lib.itoa v.b, Lib.itoa v.c] ++ (if v.pre = [] then [] else 45 :: jn 46 v.pre)) := by
  unfold verT
  rw [jn_join]
  by_cases h : v.pre = [] <;> simp [h, jn]
theorem ver_right {s : List UInt8} (h : relOk s = true) : VRight (verV s) := by
  obtain ⟨h0, h1, h2, h3, h4⟩ := (parse_iff s).1 h
  obtain ⟨p1, p2, p3⟩ := parse_parts h3 h4
  have hn : ∀ w, numOk w = true → 0 ≤ numI w ∧ numI w ≤ 999999 := by
    intro w hw
    unfold numI
    rw [if_pos hw]
    have := (numOk_val hw).2
    omega
  obtain ⟨x, y, z, e⟩ := triple h3
  rw [e] at p1
  refine ⟨h2, hn _ ?_, hn _ ?_, hn _ ?_, p3, p2⟩ <;> rw [e]
  · exact p1 x (by simp)
  · exact p1 y (by simp)
  · exact p1 z (by simp)
theorem verT_of {s : List UInt8} (h : relOk s = true) : verT (verV s) = s := by
  obtain ⟨h0, h1, h2, h3, h4⟩ := (parse_iff s).1 h
  obtain ⟨p1, p2, p3⟩ := parse_parts h3 h4
  obtain ⟨x, y, z, e⟩ := triple h3
  rw [e] at p1
  rw [verT_jn]
  show prS s ++ 45 :: (jn 46 [Lib.itoa (numI ((wdS s).getD 0 [])), Lib.itoa (numI ((wdS s).getD 1 [])), Lib.itoa (numI ((wdS s).getD 2 []))] ++ (if preS s = [] then [] else 45 :: jn 46 (preS s))) = s
  rw [e]
  show prS s ++ 45 :: (jn 46 [Lib.itoa (numI x), Lib.itoa (numI y), Lib.itoa (numI z)] ++ (if preS s = [] then [] else 45 :: jn 46 (preS s))) = s
  rw [itoa_numI (p1 x (by simp)), itoa_numI (p1 y (by simp)), itoa_numI (p1 z (by simp)), ← e]
  have e2 : jn 46 (wdS s) = (cutC 45 (rsS s)).1 := jn_split 46 _
  rw [e2]
  conv => rhs; rw [ln_parts h0]
  congr 2
  cases hc : (cutC 45 (rsS s)).2.2 with
  | false =>
    have e3 : preS s = [] := by unfold preS; rw [if_neg (by simp [hc])]
    rw [e3, if_pos rfl, List.append_nil, (cut_f hc).1]
  | true =>
    have e3 : preS s = splitC 46 (cutC 45 (rsS s)).2.1 := by unfold preS; rw [if_pos hc]
    rw [e3, if_neg (split_ne _ _), jn_split, ← cut_t hc]
theorem proj_dot {s : List UInt8} (h : projOk s = true) : (46 : UInt8) ∉ s := by
  intro hm
  simp only [projOk, Bool.and_eq_true, Bool.not_eq_true', decide_eq_false_iff_not] at h
  obtain ⟨k, hk⟩ := List.mem_iff_getElem?.1 hm
  have h0 := Lib.indexByte_ge s 46
  exact Lib.indexByte_none (l := s) (c := 46) (by omega) k hk
theorem of_verT {v : PVer} (hv : VRight v) (hl : (verT v).length ≤ 40) : relOk (verT v) = true ∧ verV (verT v) = v := by
  have hdig : ∀ n : Int, 0 ≤ n ∧ n ≤ 999999 → numOk (Lib.itoa n) = true ∧ numI (Lib.itoa n) = n ∧ (∀ c ∈ Lib.itoa n, c ≠ 45 ∧ c ≠ 46) := by
    intro n hn
    rw [itoa_nat hn.1]
    have h1 := dec_num (u := n.toNat) (by omega)
    refine ⟨h1, ?_, fun c hc => let_not (sub_let ((val_dec n.toNat).2.2.1 c hc))⟩
    unfold numI
    rw [if_pos h1, (val_dec n.toNat).1]; omega
  obtain ⟨a1, a2, a3⟩ := hdig v.a hv.a
  obtain ⟨b1, b2, b3⟩ := hdig v.b hv.b
  obtain ⟨c1, c2, c3⟩ := hdig v.c hv.c
  have hN : ∀ c ∈ jn 46 [Lib.itoa v.a, Lib.itoa v.b, Lib.itoa v.c], c ≠ 45 := by
    intro c hc
    rcases mem_jn hc with rfl | ⟨w, hw, h⟩
    · decide
    · simp only [List.mem_cons, List.not_mem_nil, or_false] at hw
      rcases hw with rfl | rfl | rfl
      · exact (a3 c h).1
      · exact (b3 c h).1
      · exact (c3 c h).1
  have hidx : verT v = (v.p ++ 45 :: Lib.itoa v.a) ++ 46 :: (jn 46 [Lib.itoa v.b, Lib.itoa v.c] ++ (if v.pre = [] then [] else 45 :: jn 46 v.pre)) := by
    rw [verT_jn]; simp [jn]
  have hnot : (46 : UInt8) ∉ v.p ++ 45 :: Lib.itoa v.a := by
    intro h
    rcases List.mem_append.1 h with h | h
    · exact proj_dot hv.p h
    · rcases List.mem_cons.1 h with h | h
      · exact absurd h (by decide)
      · exact (a3 46 h).2 rfl
  have hpt : ptN (verT v) = (v.p ++ 45 :: Lib.itoa v.a).length := by
    unfold ptN
    rw [hidx, index_app hnot, Int.toNat_natCast]
  have htk : (verT v).take (ptN (verT v)) = v.p ++ 45 :: Lib.itoa v.a := by
    rw [hpt, hidx, List.take_left']
    rfl
  have hln : lnI (verT v) = v.p.length := by
    unfold lnI
    rw [htk, last_app fun h => (a3 45 h).1 rfl]
  have hpr : prS (verT v) = v.p := by
    unfold prS
    rw [hln, Int.toNat_natCast, verT_jn, List.take_left']
    rfl
  have hrs : rsS (verT v) = jn 46 [Lib.itoa v.a, Lib.itoa v.b, Lib.itoa v.c] ++ (if v.pre = [] then [] else 45 :: jn 46 v.pre) := by
    unfold rsS
    rw [hln, Int.toNat_natCast, verT_jn, ← List.drop_drop, List.drop_left' rfl]
    rfl
  have hcut : cutC 45 (rsS (verT v)) = (jn 46 [Lib.itoa v.a, Lib.itoa v.b, Lib.itoa v.c], jn 46 v.pre, !decide (v.pre = [])) := by
    rw [hrs]
    by_cases h : v.pre = []
    · rw [if_pos h, List.append_nil, cut_not fun hc => hN 45 hc rfl, h]; rfl
    · rw [if_neg h, cut_app fun hc => hN 45 hc rfl]; simp [h]
  have hwd : wdS (verT v) = [Lib.itoa v.a, Lib.itoa v.b, Lib.itoa v.c] := by
    unfold wdS
    rw [hcut]
    refine split_jn 46 (by simp) fun w hw hm => ?_
    simp only [List.mem_cons, List.not_mem_nil, or_false] at hw
    rcases hw with rfl | rfl | rfl
    · exact (a3 46 hm).2 rfl
    · exact (b3 46 hm).2 rfl
    · exact (c3 46 hm).2 rfl
  have hpre : preS (verT v) = v.pre := by
    unfold preS
    rw [hcut]
    by_cases h : v.pre = []
    · simp [h]
    · rw [if_pos (by simp [h])]
      exact split_jn 46 h fun w hw hm => (let_not ((preB_let (hv.pre w hw)).2 46 hm)).2 rfl
  constructor
  · refine (parse_iff _).2 ⟨by omega, hl, by rw [hpr]; exact hv.p, by rw [hwd]; rfl, parts_parse (by rw [hwd]; rfl) ?_ (by rw [hpre]; exact hv.pre) (by rw [hpre]; exact hv.n)⟩
    intro w hw
    rw [hwd] at hw
    simp only [List.mem_cons, List.not_mem_nil, or_false] at hw
    rcases hw with rfl | rfl | rfl <;> assumption
  · unfold verV
    rw [hpr, hwd, hpre]
    show PVer.mk v.p (numI (Lib.itoa v.a)) (numI (Lib.itoa v.b)) (numI (Lib.itoa v.c)) v.pre = v
    rw [a2, b2, c2]
def outB (n lo hi : Int) : Bool := decide (n < lo) || decide (hi < n)
def txtR (v : PVer) : List UInt8 × Int :=
  if projOk v.p = false then ([], 3)
  else if (outB v.a 0 999999 || outB v.b 0 999999 || outB v.c 0 999999) = true then ([], 2)
  else if (5 : Int) < v.pre.length then ([], 4)
  else if badPre v.pre = true then ([], 8)
  else if (40 : Int) < (verT v).length then ([], 4) else (verT v, 0)
theorem txt_right {v : PVer} (h : (txtR v).2 = 0) : VRight v ∧ (verT v).length ≤ 40 ∧ (txtR v).1 = verT v := by
  unfold txtR at h ⊢
  split at h
  · cases h
  · rename_i h1
    rw [if_neg h1]
    split at h
    · cases h
    · rename_i h2
      rw [if_neg h2]
      split at h
      · cases h
      · rename_i h3
        rw [if_neg h3]
        split at h
        · cases h
        · rename_i h4
          rw [if_neg h4]
          split at h
          · cases h
          · rename_i h5
            rw [if_neg h5]
            simp only [outB, Bool.or_eq_true, decide_eq_true_eq, not_or] at h2
            exact ⟨⟨by simpa using h1, by omega, by omega, by omega, by omega, bad_iff.1 (by simpa using h4)⟩, by omega, rfl⟩
theorem right_txt {v : PVer} (h : VRight v) (hl : (verT v).length ≤ 40) : txtR v = (verT v, 0) := by
  have ha := h.a
  have hb := h.b
  have hc := h.c
  have hn := h.n
  unfold txtR
  rw [if_neg (by simp [h.p]), if_neg (by simp only [outB, Bool.or_eq_true, decide_eq_true_eq, not_or]; omega), if_neg (by omega), if_neg (by simp [bad_iff.2 h.pre]), if_neg (by omega)]
/-! ### Ranges, ties -/
theorem cmpJ_rng (x y : Int) : -1 ≤ cmpJ x y ∧ cmpJ x y ≤ 1 := by unfold cmpJ; split <;> (try split) <;> omega
theorem cmpB_rng (x y : List UInt8) : -1 ≤ cmpB x y ∧ cmpB x y ≤ 1 := by unfold cmpB; split <;> (try split) <;> omega
theorem cmpPart_rng (x y : List UInt8) : -1 ≤ cmpPart x y ∧ cmpPart x y ≤ 1 := by
  have h1 := cmpJ_rng (valD x : Nat) (valD y : Nat)
  have h2 := cmpB_rng x y
  unfold cmpPart
  repeat' split <;> (try omega)
theorem cmpLP_rng : ∀ x y : List (List UInt8), -1 ≤ cmpL cmpPart x y ∧ cmpL cmpPart x y ≤ 1
  | [], [] => by show (-1 : Int) ≤ 0 ∧ (0 : Int) ≤ 1; omega
  | [], _ :: _ => by show (-1 : Int) ≤ -1 ∧ (-1 : Int) ≤ 1; omega
  | _ :: _, [] => by show (-1 : Int) ≤ 1 ∧ (1 : Int) ≤ 1; omega
  | a :: r, b :: s => by
    rw [cmpL]
    split
    · exact cmpPart_rng a b
    · exact cmpLP_rng r s
theorem cmpV_rng (x y : PVer) : -1 ≤ cmpV x y ∧ cmpV x y ≤ 1 := by
  have h0 := cmpB_rng x.p y.p
  have h1 := cmpJ_rng x.a y.a
  have h2 := cmpJ_rng x.b y.b
  have h3 := cmpJ_rng x.c y.c
  have h4 := cmpLP_rng x.pre y.pre
  unfold cmpV headC or4 cmpPre
  repeat' split <;> (try omega)
theorem tie_iff {x y : PVer} (hx : VRight x) (hy : VRight y) (hl : (verT x).length ≤ 40) (hm : (verT y).length ≤ 40) : cmpV x y = 0 ↔ verT x = verT y := by
  constructor
  · intro h; rw [cmpV_zero hx hy h]
  · intro h
    rw [← (of_verT hx hl).2, ← (of_verT hy hm).2, h]
    exact cmp3_V.refl _
end Go.Proofs.YtpmlgnbbkpplhaaGreatDoor
