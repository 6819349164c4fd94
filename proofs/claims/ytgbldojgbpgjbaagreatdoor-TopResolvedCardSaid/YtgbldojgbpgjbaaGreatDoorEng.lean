/- The frame and the memory of a walk as two lists of facts, and what each operation does to them. No condition. -/
import Derived.WalkKit
import Derived.Deep.Quiet
import Derived.Deep.LoopGhost
namespace Go.Eng
set_option linter.unusedSimpArgs false
set_option linter.unusedVariables false
open Go.RowKit
/-! ### What is known of the slots: slot, guard, value. Where the guard is false the slot holds 'undef'. -/
abbrev FL := List (Nat × Bool × Value)
def FL.get : FL → Nat → Option (Bool × Value)
  | [], _ => none
  | (i, g, v) :: r, j => bif Nat.beq i j then some (g, v) else FL.get r j
def FL.ev (F : FL) : Operand → Option (Bool × Value)
  | .tmp t => F.get t
  | .const v => some (true, v)
  | .global g => some (true, .pointer (some ⟨g, 0, none⟩))
  | .func f => some (true, .func (.func f) #[] #[])

structure Fr (n : Nat) (F : FL) (a : Act) : Prop where
  size : a.tmps.size = n
  defers : a.defers = []
  has : ∀ i g v, F.get i = some (g, v) → a.tmps.getD i undef = bif g then v else undef

section
variable {n : Nat} {F : FL} {a : Act}
theorem Fr.eval (h : Fr n F a) {x : Operand} {g : Bool} {v : Value} (hx : F.ev x = some (g, v)) : a.eval x = bif g then v else undef := by
  cases x with
  | tmp t => exact h.has t g v hx
  | const u => simp only [FL.ev, Option.some.injEq, Prod.mk.injEq] at hx; obtain ⟨rfl, rfl⟩ := hx; rfl
  | global u => simp only [FL.ev, Option.some.injEq, Prod.mk.injEq] at hx; obtain ⟨rfl, rfl⟩ := hx; rfl
  | func u => simp only [FL.ev, Option.some.injEq, Prod.mk.injEq] at hx; obtain ⟨rfl, rfl⟩ := hx; rfl
theorem Fr.eval_on (h : Fr n F a) {x : Operand} {g gx : Bool} {v : Value} (hx : F.ev x = some (gx, v)) (hg : g = true) (hi : g = true → gx = true) : a.eval x = v := by
  rw [h.eval hx, hi hg]; rfl
theorem Fr.put (h : Fr n F a) {d : Nat} (g : Bool) (v : Value) (hd : Nat.blt d n = true) : Fr n ((d, g, v) :: F) (a.put (some d) (bif g then v else undef)) := by
  have hdn : d < n := by simpa [Nat.blt_eq] using hd
  refine ⟨by simp [Act.put, h.size], h.defers, ?_⟩
  intro i g' v' hi
  by_cases e : d = i
  · subst e
    simp only [FL.get, Nat.beq_refl, cond_true, Option.some.injEq, Prod.mk.injEq] at hi
    obtain ⟨rfl, rfl⟩ := hi
    simp [Act.put, Array.getD, h.size, hdn]
  · have hb : Nat.beq d i = false := by
      cases hh : Nat.beq d i
      · rfl
      · exact absurd (Nat.eq_of_beq_eq_true hh) e
    simp only [FL.get, hb, cond_false] at hi
    have := h.has i g' v' hi
    simp only [Act.put]
    rw [← this]
    simp [Array.getD_eq_getD_getElem?, Array.getElem?_setIfInBounds_ne e]
/-- Only what is listed is kept. -/
def SubF (F : FL) : FL → Prop
  | [] => True
  | (i, g, v) :: r => F.get i = some (g, v) ∧ SubF F r
end
/-! ### What is known of memory: blocks of the call's own, each under a number of the proof's. -/
structure Row where
  t : TypeId
  size : Nat
  v : Value
  n : Nat
  xs : List Value
/-- 'many': rows that are read and no more turned. -/
inductive It where
  | blk (b : Nat) (φ : Obj → Prop)
  | own (t : TypeId) (size : Nat) (v : Value) (n : Nat) (xs : List Value)
  | many (rs : List Row)
def It.foot : It → Option Nat
  | .blk b _ => some b
  | .own _ _ v _ _ => v.ownBlock
  | .many _ => none
def It.single : It → Prop
  | .many _ => False
  | _ => True
def It.on : It → Nat → Prop
  | .blk g _, b => g = b
  | .own _ _ v _ _, b => v.ownBlock = some b
  | .many rs, b => ∃ r ∈ rs, r.v.ownBlock = some b
def It.sat (B : Nat) (w : World) : It → Prop
  | .blk b φ => B ≤ b ∧ ∃ o, w.heap[b]? = some o ∧ φ o
  | .own t s v n xs => w.ownsRow B t s v n xs
  | .many rs => ∀ r ∈ rs, w.ownsRow B r.t r.size r.v r.n r.xs
theorem It.on_foot {p : It} {b : Nat} (h : p.foot = some b) : p.on b := by
  cases p with
  | blk g φ => exact Option.some.inj h
  | own t s v n xs => exact h
  | many rs => cases h
theorem It.foot_on {p : It} {b : Nat} (h1 : p.single) (h : p.on b) : p.foot = some b := by
  cases p with
  | blk g φ => exact congrArg some h
  | own t s v n xs => exact h
  | many rs => exact h1.elim
theorem row_keep {B : Nat} {w w' : World} {t : TypeId} {s n : Nat} {v : Value} {xs : List Value} (h : w.ownsRow B t s v n xs) (hk : ∀ b, v.ownBlock = some b → w'.heap[b]? = w.heap[b]?) : w'.ownsRow B t s v n xs := by
  refine ⟨h.1, ?_⟩
  rcases h.2 with hn | ⟨g, cap, cur, rfl, hb, hg, rest⟩
  · exact .inl hn
  · exact .inr ⟨g, cap, cur, rfl, hb, (hk g rfl).trans hg, rest⟩

theorem It.lt {B : Nat} {w : World} {p : It} (h : p.sat B w) : ∀ b, p.on b → B ≤ b ∧ b < w.heap.size := by
  intro b hb
  cases p with
  | blk g φ =>
    cases hb
    obtain ⟨h1, o, h2, _⟩ := h
    exact ⟨h1, (Array.getElem?_eq_some_iff.1 h2).1⟩
  | own t s v n xs => exact World.ownsRow.lt h b hb
  | many rs =>
    obtain ⟨r, hr, hv⟩ := hb
    exact World.ownsRow.lt (h r hr) b hv

theorem It.keep {B : Nat} {w w' : World} {p : It} (h : p.sat B w) (hk : ∀ b, p.on b → w'.heap[b]? = w.heap[b]?) : p.sat B w' := by
  cases p with
  | blk g φ =>
    obtain ⟨h1, o, h2, h3⟩ := h
    exact ⟨h1, o, (hk g rfl).trans h2, h3⟩
  | own t s v n xs => exact row_keep h hk
  | many rs => exact fun r hr => row_keep (h r hr) fun b hb => hk b ⟨r, hr, hb⟩

abbrev HL := List (Nat × It)
def HL.get : HL → Nat → Option It
  | [], _ => none
  | (i, p) :: r, j => bif Nat.beq i j then some p else HL.get r j

structure Mem (w0 : World) (L : HL) (w : World) : Prop where
  below : Below w0.heap.size w0 w
  sat : ∀ i p, L.get i = some p → p.sat w0.heap.size w
  apart : ∀ i j p q, i ≠ j → L.get i = some p → L.get j = some q → ∀ b, p.on b → ¬ q.on b

theorem HL.get_cons {i j : Nat} {p q : It} {L : HL} (h : HL.get ((i, p) :: L) j = some q) : (j = i ∧ q = p) ∨ (j ≠ i ∧ L.get j = some q) := by
  simp only [HL.get] at h
  cases hb : Nat.beq i j
  · rw [hb] at h; exact .inr ⟨fun e => by subst e; simp at hb, h⟩
  · rw [hb] at h
    simp only [cond_true, Option.some.injEq] at h
    exact .inl ⟨(Nat.eq_of_beq_eq_true hb).symm, h.symm⟩

section
variable {w0 w w' : World} {L : HL}
theorem Mem.start (w : World) : Mem w [] w := ⟨Below.refl _ _, fun i p h => by simp [HL.get] at h, fun i j p q _ h => by simp [HL.get] at h⟩
theorem Mem.size (h : Mem w0 L w) : w0.heap.size ≤ w.heap.size := h.below.size
/-- A call that leaves all blocks that are there alone. -/
theorem Mem.call (h : Mem w0 L w) (hb : Below w.heap.size w w') : Mem w0 L w' :=
  ⟨h.below.trans (hb.mono h.size), fun i p hp => It.keep (h.sat i p hp) fun b hf => hb.block b (It.lt (h.sat i p hp) b hf).2, h.apart⟩
theorem Mem.drew (h : Mem w0 L w) : Mem w0 L w.drew := h.call (Below.refl _ _).drew
/-- A new block. -/
theorem Mem.new (h : Mem w0 L w) (i : Nat) (o : Obj) (φ : Obj → Prop) (ho : φ o) : Mem w0 ((i, .blk w.heap.size φ) :: L) (w.alloc o) := by
  have h' : Mem w0 L (w.alloc o) := h.call ((Below.refl _ _).alloc (Nat.le_refl _) o)
  refine ⟨h'.below, ?_, ?_⟩
  · intro j p hp
    rcases HL.get_cons hp with ⟨rfl, rfl⟩ | ⟨_, hq⟩
    · exact ⟨h.size, o, heap_alloc_new w o, ho⟩
    · exact h'.sat j p hq
  · intro j k p q hjk hp hq b hf hf'
    rcases HL.get_cons hp with ⟨rfl, rfl⟩ | ⟨_, hp'⟩
    · rcases HL.get_cons hq with ⟨rfl, rfl⟩ | ⟨_, hq'⟩
      · exact hjk rfl
      · change w.heap.size = b at hf
        have := (It.lt (h.sat k q hq') b hf').2
        omega
    · rcases HL.get_cons hq with ⟨rfl, rfl⟩ | ⟨_, hq'⟩
      · change w.heap.size = b at hf'
        have := (It.lt (h.sat j p hp') b hf).2
        omega
      · exact h.apart j k p q hjk hp' hq' b hf hf'
/-- One item turns; nothing else of what is known does. -/
theorem Mem.turn (h : Mem w0 L w) {i : Nat} {p p' : It} (hp : L.get i = some p) (hb : w.grownBy w' p.foot) (hs : p'.sat w0.heap.size w') (hf : p'.foot = p.foot ∨ ∀ b, p'.foot = some b → w.heap.size ≤ b) (h1 : p'.single := by trivial) : Mem w0 ((i, p') :: L) w' := by
  have hlt := It.lt (h.sat i p hp)
  have keep : ∀ j q, j ≠ i → L.get j = some q → q.sat w0.heap.size w' := fun j q hj hq => It.keep (h.sat j q hq) fun b hfb => hb.block b (It.lt (h.sat j q hq) b hfb).2 (fun e => h.apart j i q p hj hq hp b hfb (It.on_foot e.symm))
  refine ⟨h.below.grown hb h.size (fun k hk => (hlt k (It.on_foot hk)).1), ?_, ?_⟩
  · intro j q hq
    rcases HL.get_cons hq with ⟨rfl, rfl⟩ | ⟨hj, hq'⟩
    · exact hs
    · exact keep j q hj hq'
  · intro j k q r hjk hq hr b hfb hfb'
    rcases HL.get_cons hq with ⟨rfl, rfl⟩ | ⟨hj, hq'⟩
    · rcases HL.get_cons hr with ⟨rfl, rfl⟩ | ⟨hk, hr'⟩
      · exact hjk rfl
      · rcases hf with hf | hf
        · exact h.apart j k p r hjk hp hr' b (It.on_foot (hf ▸ It.foot_on h1 hfb)) hfb'
        · have := hf b (It.foot_on h1 hfb)
          have := (It.lt (h.sat k r hr') b hfb').2
          omega
    · rcases HL.get_cons hr with ⟨rfl, rfl⟩ | ⟨hk, hr'⟩
      · rcases hf with hf | hf
        · exact h.apart j k q p hjk hq' hp b hfb (It.on_foot (hf ▸ It.foot_on h1 hfb'))
        · have := hf b (It.foot_on h1 hfb')
          have := (It.lt (h.sat j q hq') b hfb).2
          omega
      · exact h.apart j k q r hjk hq' hr' b hfb hfb'
/-- Something that is in no block yet (a nil slice). -/
theorem Mem.add (h : Mem w0 L w) (i : Nat) (p : It) (hf : p.foot = none) (hs : p.sat w0.heap.size w) (h1 : p.single := by trivial) : Mem w0 ((i, p) :: L) w := by
  refine ⟨h.below, ?_, ?_⟩
  · intro j q hq
    rcases HL.get_cons hq with ⟨rfl, rfl⟩ | ⟨_, hq'⟩
    · exact hs
    · exact h.sat j q hq'
  · intro j k q r hjk hq hr b hfb hfb'
    rcases HL.get_cons hq with ⟨rfl, rfl⟩ | ⟨_, hq'⟩
    · have := It.foot_on h1 hfb; rw [hf] at this; cases this
    · rcases HL.get_cons hr with ⟨rfl, rfl⟩ | ⟨_, hr'⟩
      · have := It.foot_on h1 hfb'; rw [hf] at this; cases this
      · exact h.apart j k q r hjk hq' hr' b hfb hfb'
/-- No row yet. -/
theorem Mem.many0 (h : Mem w0 L w) (i : Nat) : Mem w0 ((i, .many []) :: L) w := by
  refine ⟨h.below, ?_, ?_⟩
  · intro j q hq
    rcases HL.get_cons hq with ⟨rfl, rfl⟩ | ⟨_, hq'⟩
    · exact fun r hr => by simp at hr
    · exact h.sat j q hq'
  · intro j k q r hjk hq hr b hfb hfb'
    rcases HL.get_cons hq with ⟨rfl, rfl⟩ | ⟨_, hq'⟩
    · obtain ⟨_, h1, _⟩ := hfb; simp at h1
    · rcases HL.get_cons hr with ⟨rfl, rfl⟩ | ⟨_, hr'⟩
      · obtain ⟨_, h1, _⟩ := hfb'; simp at h1
      · exact h.apart j k q r hjk hq' hr' b hfb hfb'
def HL.drop (i : Nat) : HL → HL
  | [] => []
  | (j, p) :: r => bif Nat.beq j i then HL.drop i r else (j, p) :: HL.drop i r
theorem HL.get_drop {i j : Nat} {q : It} : ∀ {L : HL}, HL.get (HL.drop i L) j = some q → j ≠ i ∧ L.get j = some q
  | [], h => by simp [HL.drop, HL.get] at h
  | (k, p) :: r, h => by
    unfold HL.drop at h
    cases hk : Nat.beq k i
    · rw [hk] at h
      rcases HL.get_cons h with ⟨rfl, rfl⟩ | ⟨hjk, h'⟩
      · exact ⟨fun e => by subst e; simp at hk, by simp [HL.get]⟩
      · obtain ⟨h1, h2⟩ := HL.get_drop h'
        exact ⟨h1, by
          have : Nat.beq k j = false := by
            cases hb : Nat.beq k j
            · rfl
            · exact (hjk (Nat.eq_of_beq_eq_true hb).symm).elim
          simp only [HL.get, this, cond_false]; exact h2⟩
    · rw [hk] at h
      obtain ⟨h1, h2⟩ := HL.get_drop (L := r) h
      have e := Nat.eq_of_beq_eq_true hk
      exact ⟨h1, by
        have : Nat.beq k j = false := by
          cases hb : Nat.beq k j
          · rfl
          · exact (h1 ((Nat.eq_of_beq_eq_true hb).symm.trans e)).elim
        simp only [HL.get, this, cond_false]; exact h2⟩
/-- A row that is no more turned goes to the many. -/
theorem Mem.bank (h : Mem w0 L w) {m i : Nat} {rs : List Row} {t : TypeId} {s n : Nat} {v : Value} {xs : List Value} (hm : L.get m = some (.many rs)) (hi : L.get i = some (.own t s v n xs)) (hmi : m ≠ i) :
    Mem w0 ((m, .many (rs ++ [⟨t, s, v, n, xs⟩])) :: HL.drop i L) w := by
  have key : ∀ b, (It.many (rs ++ [⟨t, s, v, n, xs⟩])).on b → (It.many rs).on b ∨ (It.own t s v n xs).on b := by
    rintro b ⟨r, hr, hb⟩
    rcases List.mem_append.1 hr with h1 | h1
    · exact .inl ⟨r, h1, hb⟩
    · simp only [List.mem_singleton] at h1; subst h1; exact .inr hb
  refine ⟨h.below, ?_, ?_⟩
  · intro j q hq
    rcases HL.get_cons hq with ⟨rfl, rfl⟩ | ⟨_, hq'⟩
    · intro r hr
      rcases List.mem_append.1 hr with h1 | h1
      · exact h.sat j _ hm r h1
      · simp only [List.mem_singleton] at h1; subst h1; exact h.sat i _ hi
    · exact h.sat j q (HL.get_drop hq').2
  · intro j k q r hjk hq hr b hfb hfb'
    rcases HL.get_cons hq with ⟨rfl, rfl⟩ | ⟨hjm, hq'⟩
    · rcases HL.get_cons hr with ⟨rfl, rfl⟩ | ⟨hkm, hr'⟩
      · exact hjk rfl
      · obtain ⟨h1, h2⟩ := HL.get_drop hr'
        rcases key b hfb with h3 | h3
        · exact h.apart j k _ r hjk hm h2 b h3 hfb'
        · exact h.apart i k _ r (Ne.symm h1) hi h2 b h3 hfb'
    · obtain ⟨h1, h2⟩ := HL.get_drop hq'
      rcases HL.get_cons hr with ⟨rfl, rfl⟩ | ⟨hkm, hr'⟩
      · rcases key b hfb' with h3 | h3
        · exact h.apart j k q _ hjk h2 hm b hfb h3
        · exact h.apart j i q _ h1 h2 hi b hfb h3
      · exact h.apart j k q r hjk h2 (HL.get_drop hr').2 b hfb hfb'
def SubL (L : HL) : HL → Prop
  | [] => True
  | (i, p) :: r => L.get i = some p ∧ SubL L r
theorem SubL.spec {L' : HL} (h : SubL L L') : ∀ i p, L'.get i = some p → L.get i = some p := by
  induction L' with
  | nil => intro i p hi; simp [HL.get] at hi
  | cons x r ih =>
    obtain ⟨j, q⟩ := x
    intro i p hi
    rcases HL.get_cons hi with ⟨rfl, rfl⟩ | ⟨_, hq⟩
    · exact h.1
    · exact ih h.2 i p hq
theorem Mem.sub {L' : HL} (h : Mem w0 L w) (hs : SubL L L') : Mem w0 L' w :=
  ⟨h.below, fun i p hp => h.sat i p (hs.spec i p hp), fun i j p q hij hp hq => h.apart i j p q hij (hs.spec i p hp) (hs.spec j q hq)⟩
end
/-! ### The judgements -/
/-- A statement. -/
def T (P : Program) (w0 : World) (n : Nat) (c : Code) (F : FL) (L : HL) (Q : Exit → Act → World → Prop) : Prop :=
  ∀ a w, Fr n F a → Mem w0 L w → c.wp P Q a w
/-- The rest of a region that does not draw its order. -/
def S (P : Program) (w0 : World) (n : Nat) (ops : Array Oper) (l : List Oper) (F : FL) (L : HL) (Q : Exit → Act → World → Prop) : Prop :=
  ∀ a w, Fr n F a → Mem w0 L w → wpList P ops Q l a w
/-- The rest of a region that draws its order and only reads. -/
def D (P : Program) (w0 : World) (n : Nat) (ops : Array Oper) (l : List Oper) (F : FL) (L : HL) (Q : Exit → Act → World → Prop) : Prop :=
  ∀ a, Fr n F a → wpQuiet P ops (Mem w0 L) (fun a' => ∀ w', Mem w0 L w' → Q .normal a' w') l a
/-- An operation that, where its guard holds, yields v in every world of which L is known. -/
def Y (P : Program) (w0 : World) (F : FL) (L : HL) (g : Bool) (o : Oper) (v : Value) : Prop :=
  ∀ n a, Fr n F a → g = true → ∀ w, Mem w0 L w → o.quietAt P a (Mem w0 L) w v
/-- What the guard of an operation comes to. -/
def G (F : FL) (ops : Array Oper) (o : Oper) (g : Bool) : Prop := ∀ n a, Fr n F a → Region.wanted o (yielded ops a.tmps) = g

section
variable {P : Program} {w0 : World} {n : Nat} {ops : Array Oper} {l : List Oper} {F : FL} {L : HL} {Q : Exit → Act → World → Prop} {o : Oper} {g : Bool} {v : Value}
theorem G_no (h : o.guard = none) : G F ops o true := fun n a _ => by simp [Region.wanted, h]
theorem G_at {j s : Nat} {want gs b : Bool} {oj : Oper} (h : o.guard = some (j, want)) (hj : ops[j]? = some oj) (hs : oj.dst = some s) (hv : F.get s = some (gs, .bool b)) :
    G F ops o (gs && (b == want)) := fun n a hF => by
  have h1 := hF.has s gs _ hv
  have h2 : yielded ops a.tmps j = bif gs then some b else none := by
    unfold yielded
    simp only [hj, Option.bind_some, hs]
    rw [Array.getD_eq_getD_getElem?] at h1
    cases hx : a.tmps[s]? with
    | none => rw [hx] at h1; cases gs <;> simp [undef] at h1 ⊢
    | some u =>
      rw [hx] at h1
      simp only [Option.getD_some] at h1
      subst h1
      cases gs <;> simp [undef]
  simp only [Region.wanted, h, h2]
  cases gs <;> cases b <;> cases want <;> rfl

theorem S_step (hg : G F ops o g) (hd : ∃ d, o.dst = some d ∧ Nat.blt d n = true ∧ S P w0 n ops l ((d, g, v) :: F) L Q) (hy : Y P w0 F L g o v) : S P w0 n ops (o :: l) F L Q := by
  intro a w hF hM
  obtain ⟨d, hd, hdn, hK⟩ := hd
  have hw := hg n a hF
  unfold wpList
  cases g with
  | true =>
    rw [if_pos hw]
    refine .inl (Oper.wp_of_quiet (C := Mem w0 L) (K := fun a' => Fr n ((d, true, v) :: F) a') hM (fun a' w' hw' hF' => hK a' w' hF' hw') ⟨v, fun w' hw' => hy n a hF rfl w' hw', ?_⟩)
    rw [hd]; exact hF.put true v hdn
  | false =>
    rw [if_neg (by rw [hw]; simp)]
    have := hF.put false v hdn
    rw [hd]
    exact hK _ _ this hM

theorem D_step (hg : G F ops o g) (hd : ∃ d, o.dst = some d ∧ Nat.blt d n = true ∧ D P w0 n ops l ((d, g, v) :: F) L Q) (hy : Y P w0 F L g o v) : D P w0 n ops (o :: l) F L Q := by
  intro a hF
  obtain ⟨d, hd, hdn, hK⟩ := hd
  have hw := hg n a hF
  unfold wpQuiet
  cases g with
  | true =>
    rw [if_pos hw]
    refine ⟨v, fun w' hw' => hy n a hF rfl w' hw', ?_⟩
    rw [hd]; exact hK _ (hF.put true v hdn)
  | false =>
    rw [if_neg (by rw [hw]; simp)]
    rw [hd]
    exact hK _ (hF.put false v hdn)

/-- The commonest: no guard. -/
theorem S_ (d : Nat) (hg : o.guard = none) (hd : o.dst = some d) (hdn : Nat.blt d n = true) (v : Value) (hy : Y P w0 F L true o v) (hK : S P w0 n ops l ((d, true, v) :: F) L Q) : S P w0 n ops (o :: l) F L Q :=
  S_step (G_no hg) ⟨d, hd, hdn, hK⟩ hy
theorem D_ (d : Nat) (hg : o.guard = none) (hd : o.dst = some d) (hdn : Nat.blt d n = true) (v : Value) (hy : Y P w0 F L true o v) (hK : D P w0 n ops l ((d, true, v) :: F) L Q) : D P w0 n ops (o :: l) F L Q :=
  D_step (G_no hg) ⟨d, hd, hdn, hK⟩ hy
theorem S_nil (h : ∀ a w, Fr n F a → Mem w0 L w → Q .normal a w) : S P w0 n ops [] F L Q := h
theorem D_nil (h : ∀ a w, Fr n F a → Mem w0 L w → Q .normal a w) : D P w0 n ops [] F L Q := fun a hF w' hw' => h a w' hF hw'
/-- .. where a statement follows. -/
theorem S_go {y : Code} {Q' : Exit → Act → World → Prop} (hq : ∀ a w, y.wp P Q' a w → Q .normal a w) (h : T P w0 n y F L Q') : S P w0 n ops [] F L Q := fun a w hF hM => hq a w (h a w hF hM)
theorem D_go {y : Code} {Q' : Exit → Act → World → Prop} (hq : ∀ a w, y.wp P Q' a w → Q .normal a w) (h : T P w0 n y F L Q') : D P w0 n ops [] F L Q := fun a hF w hM => hq a w (h a w hF hM)

theorem T_region {id : Nat} {l : List Oper} (h : S P w0 n l.toArray l F L Q) : T P w0 n (.region id l.toArray false) F L Q := fun a w hF hM => wp_region_lit (h a w hF hM)
theorem T_draws {id : Nat} {l : List Oper} (hm : P.follows .mixedOrders = true) (hB : Region.lexB .any l.toArray = true) (h : D P w0 n l.toArray l F L Q) : T P w0 n (.region id l.toArray true) F L Q := fun a w hF hM =>
  wp_region_quiet (C := Mem w0 L) hm hB hM.drew (by simpa using h a hF)
theorem T_seq {x y : Code} (h : T P w0 n x F L (Exit.then (y.wp P Q) Q)) : T P w0 n (.seq x y) F L Q := fun a w hF hM => wp_seq (h a w hF hM)
theorem T_block {id : Nat} {c : Code} (h : T P w0 n c F L (Exit.inBlock id Q)) : T P w0 n (.block id c) F L Q := fun a w hF hM => wp_block (h a w hF hM)
theorem T_skip (h : ∀ a w, Fr n F a → Mem w0 L w → Q .normal a w) : T P w0 n .skip F L Q := fun a w hF hM => wp_skip (h a w hF hM)
theorem T_skip_go {y : Code} {Q' : Exit → Act → World → Prop} (hq : ∀ a w, y.wp P Q' a w → Q .normal a w) (h : T P w0 n y F L Q') : T P w0 n .skip F L Q := T_skip fun a w hF hM => hq a w (h a w hF hM)
theorem T_exit {id : Nat} (h : ∀ a w, Fr n F a → Mem w0 L w → Q (.exit id) a w) : T P w0 n (.exit id) F L Q := fun a w hF hM => wp_exit (h a w hF hM)
theorem T_exit_go {id : Nat} {y : Code} {Q' : Exit → Act → World → Prop} (hq : ∀ a w, y.wp P Q' a w → Q (.exit id) a w) (h : T P w0 n y F L Q') : T P w0 n (.exit id) F L Q := T_exit fun a w hF hM => hq a w (h a w hF hM)
theorem T_cond {c : Operand} {x y : Code} {b : Bool} (hc : F.ev c = some (true, .bool b)) (ht : b = true → T P w0 n x F L Q) (hf : b = false → T P w0 n y F L Q) : T P w0 n (.cond c x y) F L Q := fun a w hF hM =>
  wp_cond_split (by rw [hF.eval hc]; rfl) (fun e => ht e a w hF hM) (fun e => hf e a w hF hM)
/-! ### A function's end -/
variable {fn : Func} {R : Ending → World → Prop}
theorem post0 (h : fn.results = #[]) (hR : ∀ w, Mem w0 L w → R (.returned (.tuple #[])) w) : ∀ a w, Fr n F a → Mem w0 L w → bodyPost P fn R .ret a w := fun a w hF hM =>
  ⟨hF.defers, _, results_none h _ _ _, hR w hM⟩
theorem post1 {t : Nat} (h : fn.results = #[.tmp t]) (hv : F.get t = some (true, v)) (hR : ∀ w, Mem w0 L w → R (.returned v) w) : ∀ a w, Fr n F a → Mem w0 L w → bodyPost P fn R .ret a w := fun a w hF hM =>
  ⟨hF.defers, _, results_tmp h _ _ _, by rw [hF.has t true v hv]; exact hR w hM⟩
theorem post2 {t u : Nat} {v' : Value} (h : fn.results = #[.tmp t, .tmp u]) (hv : F.get t = some (true, v)) (hu : F.get u = some (true, v')) (hR : ∀ w, Mem w0 L w → R (.returned (.tuple #[v, v'])) w) :
    ∀ a w, Fr n F a → Mem w0 L w → bodyPost P fn R .ret a w := fun a w hF hM =>
  ⟨hF.defers, _, results_tmp2 h _ _ _, by rw [hF.has t true v hv, hF.has u true v' hu]; exact hR w hM⟩
theorem post3 {t u x : Nat} {v' v'' : Value} (h : fn.results = #[.tmp t, .tmp u, .tmp x]) (hv : F.get t = some (true, v)) (hu : F.get u = some (true, v')) (hx : F.get x = some (true, v''))
    (hR : ∀ w, Mem w0 L w → R (.returned (.tuple #[v, v', v''])) w) : ∀ a w, Fr n F a → Mem w0 L w → bodyPost P fn R .ret a w := fun a w hF hM =>
  ⟨hF.defers, .tuple #[v, v', v''], by
    have e1 := hF.has t true v hv
    have e2 := hF.has u true v' hu
    have e3 := hF.has x true v'' hx
    simp only [cond_true] at e1 e2 e3
    rw [Array.getD_eq_getD_getElem?] at e1 e2 e3
    simp [results, h, e1, e2, e3], hR w hM⟩
theorem T_ret (h : ∀ a w, Fr n F a → Mem w0 L w → Q .ret a w) : T P w0 n .ret F L Q := fun a w hF hM => wp_ret (h a w hF hM)

/-- A function's body. -/
theorem enter {f : FuncId} {c : Code} {args : Array Value} {w : World} (hf : P.funcs[f]? = some fn) (hb : fn.body = some c) (hn : fn.ntmps = n) (F : FL)
    (hF : Fr n F { tmps := args ++ Array.replicate (n - args.size) undef, defers := [] }) (h : T P w n c F [] (bodyPost P fn R)) : Calls P f args w R :=
  calls_of_wp hf hb (by rw [hn]; exact h _ _ hF (Mem.start w))
def argF : Nat → List Value → FL
  | _, [] => []
  | k, v :: r => (k, true, v) :: argF (k + 1) r
theorem argF_get : ∀ (l : List Value) (k i : Nat) (g : Bool) (v : Value), (argF k l).get i = some (g, v) → g = true ∧ k ≤ i ∧ l[i - k]? = some v
  | [], k, i, g, v, h => by simp [argF, FL.get] at h
  | u :: r, k, i, g, v, h => by
    simp only [argF, FL.get] at h
    cases hb : Nat.beq k i
    · rw [hb] at h
      obtain ⟨h1, h2, h3⟩ := argF_get r (k + 1) i g v h
      refine ⟨h1, by omega, ?_⟩
      have e : i - k = (i - (k + 1)) + 1 := by omega
      rw [e]; simpa using h3
    · rw [hb] at h
      have := Nat.eq_of_beq_eq_true hb
      subst this
      simp only [cond_true, Option.some.injEq, Prod.mk.injEq] at h
      obtain ⟨rfl, rfl⟩ := h
      simp
/-- A function's body, its arguments in the first slots. -/
theorem enter_args {f : FuncId} {c : Code} {args : List Value} {w : World} (hf : P.funcs[f]? = some fn) (hb : fn.body = some c) (hn : fn.ntmps = n) (hle : Nat.ble args.length n = true) (hF : argF 0 args = F)
    (h : ∀ Rb : Exit → Act → World → Prop, (∀ a w, bodyPost P fn R .ret a w → Rb .ret a w) → (∀ a w, bodyPost P fn R .ret a w → Rb .normal a w) → T P w n c F [] Rb) : Calls P f args.toArray w R := by
  refine enter hf hb hn F ?_ (h _ (fun _ _ h => h) (fun _ _ h => h))
  have hle' : args.length ≤ n := Nat.le_of_ble_eq_true hle
  refine ⟨by simp; omega, rfl, ?_⟩
  intro i g v hi
  rw [← hF] at hi
  obtain ⟨rfl, _, h3⟩ := argF_get args 0 i g v hi
  simp only [Nat.sub_zero] at h3
  have hlt : i < args.length := by
    rcases Nat.lt_or_ge i args.length with h | h
    · exact h
    · rw [List.getElem?_eq_none h] at h3; cases h3
  have h4 : (args.toArray ++ Array.replicate (n - args.toArray.size) undef)[i]? = some v := by
    rw [Array.getElem?_append_left (by simpa using hlt)]; simpa using h3
  rw [List.size_toArray] at h4
  simp [Array.getD_eq_getD_getElem?, h4]
end
end Go.Eng
