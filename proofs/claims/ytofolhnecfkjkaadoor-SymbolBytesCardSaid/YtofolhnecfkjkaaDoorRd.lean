/- Tables read from bytes, in plain lists. No program in sight. -/
import Derived.Test.YtofolhnecfkjkaaDoorBytesP
namespace Go.Proofs.YtofolhnecfkjkaaDoor
set_option linter.unusedSimpArgs false
set_option linter.unusedVariables false
set_option maxRecDepth 20000
open Go.RowKit Go.Eng

abbrev Pa (α : Type) := List UInt8 → Option (α × List UInt8)
def nm : Pa Nat := fun s => (rd 8 s 0 0).map fun p => (p.1, s.drop p.2)
theorem rd_bounds {most : Nat} : ∀ (l : List UInt8) (i n a k : Nat), rd most l i n = some (a, k) → a ≤ 281474976710656 ∧ i < k ∧ k ≤ i + l.length
  | [], i, n, a, k, h => by simp [rd] at h
  | d :: r, i, n, a, k, h => by
    unfold rd at h
    split at h
    · cases h
    split at h
    · have := rd_bounds r _ _ a k h
      simp only [List.length_cons]; omega
    split at h
    · cases h
    · rename_i h1
      simp only [Option.some.injEq, Prod.mk.injEq] at h
      simp only [List.length_cons]; omega
theorem nm_some {s s' : List UInt8} {n : Nat} (h : nm s = some (n, s')) : n ≤ 281474976710656 ∧ s'.length < s.length := by
  unfold nm at h
  cases hr : rd 8 s 0 0 with
  | none => rw [hr] at h; cases h
  | some p =>
    rw [hr] at h
    simp only [Option.map_some, Option.some.injEq, Prod.mk.injEq] at h
    have := rd_bounds s 0 0 p.1 p.2 hr
    refine ⟨by omega, ?_⟩
    rw [← h.2, List.length_drop]; omega
def tk (n : Nat) : Pa (List UInt8) := fun s => if n ≤ s.length then some (s.take n, s.drop n) else none
def bnd {α β : Type} (p : Pa α) (q : α → Pa β) : Pa β := fun s => match p s with
  | some (x, s1) => q x s1
  | none => none
def giv {α : Type} (x : α) : Pa α := fun s => some (x, s)
def wd : Pa (List UInt8) := bnd nm tk
def sgn (n : Nat) : Int := if (n : Int) % 2 = 1 then IntKind.i64.wrap ((-((n : Int) + 1)).tdiv 2) else (n : Int) / 2
def sg : Pa Int := bnd nm fun n => giv (sgn n)
/-- what a reader leaves: a value, the rest, whether all was right so far -/
def PRes {α : Type} (p : Pa α) (s : List UInt8) (ok : Bool) (x : α) (s1 : List UInt8) (ok1 : Bool) : Prop := ok1 = (ok && (p s).isSome) ∧ (ok1 = true → p s = some (x, s1))
section
variable {α β : Type} {p : Pa α} {q : α → Pa β} {s s1 s2 : List UInt8} {ok ok1 ok2 : Bool} {x : α} {y : β}
theorem PRes.bnd (h1 : PRes p s ok x s1 ok1) (h2 : PRes (q x) s1 ok1 y s2 ok2) : PRes (bnd p q) s ok y s2 ok2 := by
  obtain ⟨a1, b1⟩ := h1
  obtain ⟨a2, b2⟩ := h2
  cases ok1 with
  | true =>
    have := b1 rfl
    have hs : (p s).isSome = true := by rw [this]; rfl
    rw [hs, Bool.and_true] at a1
    refine ⟨?_, fun h => ?_⟩
    · rw [a2, ← a1]; simp [Go.Proofs.YtofolhnecfkjkaaDoor.bnd, this]
    · simp [Go.Proofs.YtofolhnecfkjkaaDoor.bnd, this, b2 h]
  | false =>
    rw [Bool.false_and] at a2
    subst a2
    refine ⟨?_, fun h => by cases h⟩
    cases ok with
    | false => rfl
    | true =>
      simp only [Bool.true_and] at a1 ⊢
      have : p s = none := by
        cases hp : p s with
        | none => rfl
        | some u => rw [hp] at a1; cases a1
      simp [Go.Proofs.YtofolhnecfkjkaaDoor.bnd, this]
theorem PRes.giv : PRes (giv x) s ok x s ok := ⟨by simp [Go.Proofs.YtofolhnecfkjkaaDoor.giv], fun _ => rfl⟩
theorem PRes.map {γ : Type} {f : α → γ} (h : PRes p s ok x s1 ok1) : PRes (Go.Proofs.YtofolhnecfkjkaaDoor.bnd p fun x => Go.Proofs.YtofolhnecfkjkaaDoor.giv (f x)) s ok (f x) s1 ok1 := h.bnd PRes.giv
theorem PRes.some (h : PRes p s ok x s1 true) : p s = some (x, s1) ∧ ok = true := by
  refine ⟨h.2 rfl, ?_⟩
  have := h.1
  cases ok with
  | true => rfl
  | false => cases this
end
theorem tk_res {n : Nat} {s : List UInt8} {ok : Bool} (h : n ≤ s.length) : PRes (tk n) s ok (s.take n) (s.drop n) ok := by
  refine ⟨by simp [tk, h], fun _ => by simp [tk, h]⟩
theorem tk_bad {n : Nat} {s x s1 : List UInt8} {ok : Bool} (h : s.length < n) : PRes (tk n) s ok x s1 false := by
  refine ⟨by have : ¬ n ≤ s.length := by omega
             simp [tk, this], fun h => by cases h⟩
theorem tk_len {n : Nat} {s x s1 : List UInt8} (h : tk n s = some (x, s1)) : s1.length ≤ s.length := by
  unfold tk at h
  split at h
  · simp only [Option.some.injEq, Prod.mk.injEq] at h
    rw [← h.2, List.length_drop]; omega
  · cases h
theorem nm_res {s x s1 : List UInt8} {ok ok1 : Bool} {n k : Nat} (hr : rd 8 s 0 0 = some (n, k)) (h : PRes (tk k) s ok x s1 ok1) : PRes nm s ok n s1 ok1 := by
  have hk := (rd_bounds s 0 0 n k hr).2.2
  have hk' : k ≤ s.length := by omega
  obtain ⟨h1, h2⟩ := h
  simp only [tk, hk', if_true, Option.isSome_some, Bool.and_true, Option.some.injEq, Prod.mk.injEq] at h1 h2
  refine ⟨by simp [nm, hr, h1], fun h => ?_⟩
  simp [nm, hr, (h2 h).2]
theorem nm_bad {s s1 : List UInt8} {ok : Bool} {n : Nat} (hr : rd 8 s 0 0 = none) : PRes nm s ok n s1 false := ⟨by simp [nm, hr], fun h => by cases h⟩
theorem bnd_some {α β : Type} {p : Pa α} {q : α → Pa β} {s s2 : List UInt8} {y : β} (h : bnd p q s = some (y, s2)) : ∃ x s1, p s = some (x, s1) ∧ q x s1 = some (y, s2) := by
  unfold bnd at h
  cases hp : p s with
  | none => rw [hp] at h; cases h
  | some u => rw [hp] at h; exact ⟨u.1, u.2, rfl, h⟩
theorem giv_some {α : Type} {x y : α} {s s1 : List UInt8} (h : giv x s = some (y, s1)) : x = y ∧ s = s1 := by simpa [giv] using h
theorem wd_less {s s1 x : List UInt8} (h : wd s = some (x, s1)) : s1.length < s.length := by
  obtain ⟨n, s2, h1, h2⟩ := bnd_some h
  have := (nm_some h1).2
  have := tk_len h2
  omega
theorem sg_less {s s1 : List UInt8} {x : Int} (h : sg s = some (x, s1)) : s1.length < s.length := by
  obtain ⟨n, s2, h1, h2⟩ := bnd_some h
  have := (nm_some h1).2
  have := (giv_some h2).2
  subst this; exact (nm_some h1).2

/-! ### Lists -/
def iter {σ : Type} (one : σ → Pa σ) : Nat → σ → Pa σ
  | 0, a => giv a
  | n + 1, a => bnd (one a) (iter one n)
structure IterInv {σ : Type} (one : σ → Pa σ) (N : Nat) (a0 : σ) (s0 : List UInt8) (ok0 : Bool) (m : Nat) (a : σ) (s : List UInt8) (ok : Bool) : Prop where
  on : ok = true → iter one N a0 s0 = iter one m a s ∧ ok0 = true
  off : ok = false → ok0 = false ∨ iter one N a0 s0 = none
section
variable {σ : Type} {one : σ → Pa σ} {N m : Nat} {a0 a a' : σ} {s0 s s1 : List UInt8} {ok0 ok ok1 : Bool}
theorem IterInv.start : IterInv one N a0 s0 ok0 N a0 s0 ok0 := ⟨fun h => ⟨rfl, h⟩, fun h => .inl h⟩
theorem IterInv.step (h : IterInv one N a0 s0 ok0 (m + 1) a s true) (hr : PRes (one a) s true a' s1 ok1) : IterInv one N a0 s0 ok0 m a' s1 ok1 := by
  have h1 := h.on rfl
  refine ⟨fun h2 => ⟨?_, h1.2⟩, fun h2 => .inr ?_⟩
  · subst h2
    rw [h1.1]
    simp [iter, Go.Proofs.YtofolhnecfkjkaaDoor.bnd, (hr.2 rfl)]
  · subst h2
    rw [h1.1]
    have := hr.1
    rw [Bool.true_and] at this
    have hn : one a s = none := by
      cases hp : one a s with
      | none => rfl
      | some u => rw [hp] at this; cases this
    simp [iter, Go.Proofs.YtofolhnecfkjkaaDoor.bnd, hn]
theorem IterInv.done (h : IterInv one N a0 s0 ok0 m a s ok) (he : m = 0 ∨ ok = false) : PRes (iter one N a0) s0 ok0 a s ok := by
  cases ok with
  | true =>
    have h1 := h.on rfl
    have hm : m = 0 := by rcases he with he | he <;> first | exact he | cases he
    subst hm
    refine ⟨?_, fun _ => by rw [h1.1]; rfl⟩
    rw [h1.1, h1.2]; rfl
  | false =>
    refine ⟨?_, fun h => by cases h⟩
    rcases h.off rfl with h1 | h1
    · rw [h1]; rfl
    · rw [h1]; simp
end
abbrev wr (n : Int) : Int := IntKind.i64.wrap n
def oneF (fs : List (List UInt8)) : Pa (List (List UInt8)) := bnd wd fun x => giv (fs ++ [x])
def oneU (a : List SFunc × Int) : Pa (List SFunc × Int) := bnd nm fun n => bnd nm fun m => bnd wd fun x => giv (a.1 ++ [⟨x, wr (a.2 + n), wr (wr (a.2 + n) + m)⟩], wr (wr (a.2 + n) + m))
def oneR (a : List SRow × SRow) : Pa (List SRow × SRow) := bnd nm fun n => bnd sg fun m => bnd sg fun k => giv (a.1 ++ [⟨wr (a.2.pos + n), wr (a.2.fi + m), wr (a.2.ln + k)⟩], ⟨wr (a.2.pos + n), wr (a.2.fi + m), wr (a.2.ln + k)⟩)
def oneC (a : List SCall × Int) : Pa (List SCall × Int) := bnd nm fun n => bnd nm fun m => bnd nm fun k => bnd nm fun j => bnd wd fun x => giv (a.1 ++ [⟨x, wr (a.2 + n), wr (wr (a.2 + n) + m), k, j⟩], wr (a.2 + n))
theorem oneF_less {a b : List (List UInt8)} {s s1 : List UInt8} (h : oneF a s = some (b, s1)) : s1.length < s.length := by
  obtain ⟨x, s2, h1, h2⟩ := bnd_some h
  have := wd_less h1
  have := (giv_some h2).2
  subst this; assumption
theorem oneU_less {a b : List SFunc × Int} {s s1 : List UInt8} (h : oneU a s = some (b, s1)) : s1.length < s.length := by
  obtain ⟨x, s2, h1, h⟩ := bnd_some h
  obtain ⟨y, s3, h2, h⟩ := bnd_some h
  obtain ⟨z, s4, h3, h⟩ := bnd_some h
  have := (nm_some h1).2
  have := (nm_some h2).2
  have := wd_less h3
  have := (giv_some h).2
  subst this; omega
theorem oneR_less {a b : List SRow × SRow} {s s1 : List UInt8} (h : oneR a s = some (b, s1)) : s1.length < s.length := by
  obtain ⟨x, s2, h1, h⟩ := bnd_some h
  obtain ⟨y, s3, h2, h⟩ := bnd_some h
  obtain ⟨z, s4, h3, h⟩ := bnd_some h
  have := (nm_some h1).2
  have := sg_less h2
  have := sg_less h3
  have := (giv_some h).2
  subst this; omega
theorem oneC_less {a b : List SCall × Int} {s s1 : List UInt8} (h : oneC a s = some (b, s1)) : s1.length < s.length := by
  obtain ⟨x, s2, h1, h⟩ := bnd_some h
  obtain ⟨y, s3, h2, h⟩ := bnd_some h
  obtain ⟨z, s4, h3, h⟩ := bnd_some h
  obtain ⟨u, s5, h4, h⟩ := bnd_some h
  obtain ⟨v, s6, h5, h⟩ := bnd_some h
  have := (nm_some h1).2
  have := (nm_some h2).2
  have := (nm_some h3).2
  have := (nm_some h4).2
  have := wd_less h5
  have := (giv_some h).2
  subst this; omega
def lst {σ : Type} (one : σ → Pa σ) (a : σ) : Pa σ := bnd nm fun n => iter one n a
/-- a table's contents -/
structure PT where
  id : List UInt8
  size : Int
  fi : List (List UInt8)
  fu : List SFunc
  ro : List SRow
  ca : List SCall
def pTab : Pa PT := bnd (tk 16) fun id => bnd nm fun size => bnd (lst oneF []) fun fi => bnd (lst oneU ([], 0)) fun fu => bnd (lst oneR ([], rowZ)) fun ro => bnd (lst oneC ([], 0)) fun ca => giv ⟨id, size, fi, fu.1, ro.1, ca.1⟩
def parseT (s : List UInt8) : Option PT := match tk 4 s with
  | some (x, s1) => if x = magic then (match pTab s1 with
    | some (t, []) => some t
    | _ => none) else none
  | none => none
end Go.Proofs.YtofolhnecfkjkaaDoor
