/- Shares, the plain law: what a name has is the number of offsets whose innermost owner has that name. No program in sight. -/
import Derived.Test.YtofolhnecfkjkaaDoorPlace
namespace Go.Proofs.YtofolhnecfkjkaaDoor
set_option linter.unusedSimpArgs false
set_option linter.unusedVariables false
set_option maxRecDepth 20000
open Go.RowKit Go.Eng
abbrev Nm := List UInt8
def upd (f : Int → Option Nm) (a b : Int) (nm : Nm) (x : Int) : Option Nm := if a ≤ x ∧ x < b then some nm else f x
/-- how many offsets below n have this name -/
def cnt (f : Int → Option Nm) (s : Nm) : Nat → Int
  | 0 => 0
  | n + 1 => cnt f s n + if f n = some s then 1 else 0
def inter (a b : Int) : Nat → Int
  | 0 => 0
  | n + 1 => inter a b n + if a ≤ (n : Int) ∧ (n : Int) < b then 1 else 0
theorem cnt_le (f : Int → Option Nm) (s : Nm) : ∀ n, 0 ≤ cnt f s n ∧ cnt f s n ≤ n
  | 0 => by simp [cnt]
  | n + 1 => by
    have := cnt_le f s n
    unfold cnt
    split <;> omega
theorem inter_eq {a b : Int} (h0 : 0 ≤ a) (h1 : a ≤ b) : ∀ n : Nat, inter a b n = if (n : Int) ≤ a then 0 else if (n : Int) ≤ b then n - a else b - a
  | 0 => by rw [if_pos (by omega)]; rfl
  | n + 1 => by
    unfold inter
    rw [inter_eq h0 h1 n]
    split <;> split <;> split <;> (try split) <;> omega
theorem inter_all {a b : Int} {n : Nat} (h0 : 0 ≤ a) (h1 : a ≤ b) (h2 : b ≤ n) : inter a b n = b - a := by
  rw [inter_eq h0 h1]
  split
  · omega
  split <;> omega
theorem cnt_upd {f : Int → Option Nm} {a b : Int} {nm : Nm} {o : Option Nm} (h : ∀ x, a ≤ x → x < b → f x = o) (s : Nm) : ∀ n : Nat,
    cnt (upd f a b nm) s n = cnt f s n + inter a b n * ((if nm = s then 1 else 0) - if o = some s then 1 else 0)
  | 0 => by simp [cnt, inter]
  | n + 1 => by
    unfold cnt inter
    rw [cnt_upd h s n, Int.add_mul]
    by_cases hx : a ≤ (n : Int) ∧ (n : Int) < b
    · have e1 : upd f a b nm n = some nm := if_pos hx
      rw [e1, h n hx.1 hx.2, if_pos hx, Int.one_mul]
      have e2 : (if some nm = some s then (1 : Int) else 0) = if nm = s then 1 else 0 := by simp
      rw [e2]; omega
    · have e1 : upd f a b nm n = f n := if_neg hx
      rw [e1, if_neg hx, Int.zero_mul]; omega
/-! ### Functions, then calls -/
def layF : List SFunc → (Int → Option Nm) → Int → Option Nm
  | [], f => f
  | g :: r, f => layF r (upd f g.fr g.to g.name)
def layC : List SCall → (Int → Option Nm) → Int → Option Nm
  | [], f => f
  | g :: r, f => layC r (upd f g.fr g.to g.name)
theorem layC_app (b : SCall) : ∀ (l : List SCall) (f : Int → Option Nm), layC (l ++ [b]) f = upd (layC l f) b.fr b.to b.name
  | [], f => rfl
  | a :: r, f => by rw [List.cons_append, layC, layC_app b r]; rfl
theorem layF_before {size : Int} : ∀ (l : List SFunc) (last : Int) (f : Int → Option Nm) (x : Int), funcsNo size l last = 0 → x < last → layF l f x = f x
  | [], _, _, _, _, _ => rfl
  | g :: r, last, f, x, h, hx => by
    unfold funcsNo at h
    split at h
    · rename_i h1; exact absurd h h1
    split at h
    · cases h
    rename_i h2
    split at h
    · cases h
    simp only [spanBad, outB, Bool.or_eq_true, decide_eq_true_eq, not_or] at h2
    rw [layF, layF_before r g.to _ x h (by omega), upd, if_neg (by omega)]
theorem layF_at {size : Int} : ∀ (l : List SFunc) (last : Int) (f : Int → Option Nm) (x : Int) (g : SFunc), funcsNo size l last = 0 → g ∈ l → g.fr ≤ x → x < g.to → layF l f x = some g.name
  | [], _, _, _, _, _, h, _, _ => by cases h
  | a :: r, last, f, x, g, h, hg, h1, h2 => by
    unfold funcsNo at h
    split at h
    · rename_i h1; exact absurd h h1
    split at h
    · cases h
    split at h
    · cases h
    rw [layF]
    rcases List.mem_cons.1 hg with rfl | hg
    · rw [layF_before r g.to _ x h h2, upd, if_pos ⟨h1, h2⟩]
    · exact layF_at r a.to _ x g h hg h1 h2
/-- the name of what is around a call: the last one before it that has it whole -/
def aroundOf (c : SCall) : List SCall → Nm → Nm
  | [], nm => nm
  | b :: r, nm => if enclB b c = true then b.name else aroundOf c r nm
theorem around_lay {c : SCall} {f : Int → Option Nm} {nm : Nm} {x : Int} (h1 : c.fr ≤ x) (h2 : x < c.to) (hf : f x = some nm) : ∀ r : List SCall, (∀ b ∈ r, apartB b c = true ∨ enclB b c = true) → layC r.reverse f x = some (aroundOf c r nm)
  | [], _ => hf
  | b :: r, h => by
    rw [List.reverse_cons, layC_app, upd, aroundOf]
    rcases h b List.mem_cons_self with hb | hb
    · have hb' : b.to ≤ c.fr ∨ c.to ≤ b.fr := by simpa [apartB] using hb
      rw [if_neg (by omega)]
      by_cases he : enclB b c = true
      · have : b.fr ≤ c.fr ∧ c.to ≤ b.to := by simpa [enclB] using he
        omega
      · rw [if_neg he]; exact around_lay h1 h2 hf r fun b hb => h b (List.mem_cons_of_mem _ hb)
    · have hb' : b.fr ≤ c.fr ∧ c.to ≤ b.to := by simpa [enclB] using hb
      rw [if_pos (by omega), if_pos hb]
theorem nest_apart {c : SCall} : ∀ (l : List SCall) (deep : Int), nestNo c l deep = 0 → ∀ b ∈ l, apartB b c = true ∨ enclB b c = true
  | [], _, _ => fun b h => by cases h
  | a :: r, deep, h => by
    unfold nestNo at h
    intro b hb
    split at h
    · rename_i h1
      rcases List.mem_cons.1 hb with rfl | hb
      · exact .inl h1
      · exact nest_apart r _ h b hb
    split at h
    · cases h
    rename_i h2
    rcases List.mem_cons.1 hb with rfl | hb
    · right
      simp only [cutsB, Bool.or_eq_true, decide_eq_true_eq, not_or] at h2
      simp only [enclB, Bool.and_eq_true, decide_eq_true_eq]
      omega
    · exact nest_apart r _ h b hb
/-! ### The map: names with what they have -/
def gi : List (Nm × Int) → Nm → Int
  | [], _ => 0
  | p :: r, s => if p.1 = s then p.2 else gi r s
def pi' : List (Nm × Int) → Nm → Int → List (Nm × Int)
  | [], s, v => [(s, v)]
  | p :: r, s, v => if p.1 = s then (p.1, v) :: r else p :: pi' r s v
def sumM : List (Nm × Int) → Int
  | [] => 0
  | p :: r => p.2 + sumM r
theorem sum_put (s : Nm) (v : Int) : ∀ l, sumM (pi' l s v) = sumM l - gi l s + v
  | [] => by simp [pi', sumM, gi]
  | p :: r => by
    unfold pi' gi
    split
    · simp only [sumM]; omega
    · simp only [sumM, sum_put s v r]; omega
theorem gi_put (s k : Nm) (v : Int) : ∀ l, gi (pi' l s v) k = if s = k then v else gi l k
  | [] => by simp [pi', gi]
  | p :: r => by
    unfold pi'
    split
    · rename_i h
      subst h
      simp only [gi]
      split <;> rfl
    · rename_i h
      simp only [gi, gi_put s k v r]
      by_cases h1 : p.1 = k
      · rw [if_pos h1, if_neg (by intro h2; exact h (h1.trans h2.symm)), if_pos h1]
      · rw [if_neg h1, if_neg h1]
theorem keys_put (s : Nm) (v : Int) : ∀ l : List (Nm × Int), (l.map Prod.fst).Nodup → ((pi' l s v).map Prod.fst).Nodup ∧ ∀ k ∈ (pi' l s v).map Prod.fst, k = s ∨ k ∈ l.map Prod.fst
  | [], _ => by simp [pi']
  | p :: r, h => by
    rw [List.map_cons, List.nodup_cons] at h
    obtain ⟨ih1, ih2⟩ := keys_put s v r h.2
    unfold pi'
    split
    · exact ⟨by rw [List.map_cons, List.nodup_cons]; exact h, fun k hk => .inr hk⟩
    · rename_i h1
      refine ⟨?_, fun k hk => ?_⟩
      · rw [List.map_cons, List.nodup_cons]
        refine ⟨fun hm => ?_, ih1⟩
        rcases ih2 _ hm with h3 | h3
        · exact h1 h3
        · exact h.1 h3
      · rw [List.map_cons] at hk
        rcases List.mem_cons.1 hk with hk | hk
        · exact .inr (by rw [hk]; exact List.mem_cons_self)
        · rcases ih2 k hk with h3 | h3
          · exact .inl h3
          · exact .inr (List.mem_cons_of_mem _ h3)
theorem gi_mem : ∀ l : List (Nm × Int), (l.map Prod.fst).Nodup → ∀ p ∈ l, gi l p.1 = p.2
  | [], _ => fun p h => by cases h
  | a :: r, h => by
    rw [List.map_cons, List.nodup_cons] at h
    intro p hp
    rcases List.mem_cons.1 hp with rfl | hp
    · exact if_pos rfl
    · have : a.1 ≠ p.1 := fun e => h.1 (by rw [e]; exact List.mem_map_of_mem hp)
      rw [gi, if_neg this]; exact gi_mem r h.2 p hp
/-- what the map holds where f is the owner -/
structure MapOk (n : Nat) (f : Int → Option Nm) (M : List (Nm × Int)) : Prop where
  get : ∀ s, gi M s = cnt f s n
  keys : (M.map Prod.fst).Nodup
theorem MapOk.pos {n : Nat} {f : Int → Option Nm} {M : List (Nm × Int)} (h : MapOk n f M) : ∀ p ∈ M, 0 ≤ p.2 := fun p hp => by
  rw [← gi_mem M h.keys p hp, h.get]; exact (cnt_le f p.1 n).1
theorem MapOk.func {n : Nat} {f : Int → Option Nm} {M : List (Nm × Int)} (h : MapOk n f M) {a b : Int} {nm : Nm} (h0 : 0 ≤ a) (h1 : a ≤ b) (h2 : b ≤ n) (hn : ∀ x, a ≤ x → x < b → f x = none) : MapOk n (upd f a b nm) (pi' M nm (gi M nm + (b - a))) := by
  refine ⟨fun s => ?_, (keys_put _ _ _ h.keys).1⟩
  rw [gi_put, cnt_upd hn s n, inter_all h0 h1 h2, if_neg (by simp : ¬ (none : Option Nm) = some s)]
  split
  · rename_i hs; subst hs; rw [h.get]; omega
  · rw [h.get]; omega
theorem MapOk.call {n : Nat} {f : Int → Option Nm} {M : List (Nm × Int)} (h : MapOk n f M) {a b : Int} {nm ar : Nm} (h0 : 0 ≤ a) (h1 : a ≤ b) (h2 : b ≤ n) (hn : ∀ x, a ≤ x → x < b → f x = some ar) :
    MapOk n (upd f a b nm) (pi' (pi' M ar (gi M ar - (b - a))) nm (gi (pi' M ar (gi M ar - (b - a))) nm + (b - a))) := by
  refine ⟨fun s => ?_, (keys_put _ _ _ (keys_put _ _ _ h.keys).1).1⟩
  rw [gi_put, gi_put, gi_put, cnt_upd hn s n, inter_all h0 h1 h2]
  by_cases hs : nm = s
  · subst hs
    rw [if_pos rfl, if_pos rfl]
    by_cases hr : ar = nm
    · subst hr; rw [if_pos rfl, if_pos rfl, h.get]; omega
    · rw [if_neg hr, if_neg (by simpa using hr), h.get]; omega
  · rw [if_neg hs, if_neg hs]
    by_cases hr : ar = s
    · subst hr; rw [if_pos rfl, if_pos rfl, h.get]; omega
    · rw [if_neg hr, if_neg (by simpa using hr), h.get]; omega
end Go.Proofs.YtofolhnecfkjkaaDoor
