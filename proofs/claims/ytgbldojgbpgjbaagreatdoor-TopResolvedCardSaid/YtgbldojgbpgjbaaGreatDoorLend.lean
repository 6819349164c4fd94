/- Memory lent to a callee and taken back: callees that write into boxes or rows of their caller's. No condition. -/
import Derived.Test.YtgbldojgbpgjbaaGreatDoorOwn
namespace Go.Eng
set_option linter.unusedSimpArgs false
set_option linter.unusedVariables false
set_option linter.unusedSectionVars false
open Go.RowKit
section
variable {P : Program} {w0 : World} {n : Nat} {ops : Array Oper} {l : List Oper} {F : FL} {L : HL} {Q : Exit → Act → World → Prop} {o : Oper} {g : Bool} {v : Value} {x y z : Operand} {t t' : TypeId} {gx gy : Bool}
/-- The same items under other numbers. -/
theorem Mem.ren {w : World} {L L' : HL} (h : Mem w0 L w) (σ : Nat → Nat) (hs : ∀ i p, L'.get i = some p → L.get (σ i) = some p) (hi : ∀ i j p q, L'.get i = some p → L'.get j = some q → σ i = σ j → i = j) : Mem w0 L' w :=
  ⟨h.below, fun i p hp => h.sat _ p (hs i p hp), fun i j p q hij hp hq => h.apart (σ i) (σ j) p q (fun e => hij (hi i j p q hp hq e)) (hs i p hp) (hs j q hq)⟩
/-- numbers that no walk uses -/
def FromK (K : HL) : Prop := ∀ i p, K.get i = some p → 1000 ≤ i
def HL.shift : HL → HL
  | [] => []
  | (i, p) :: r => (i + 1000, p) :: HL.shift r
def hasI : List (Nat × Nat) → Nat → Bool
  | [], _ => false
  | (_, i) :: r, j => Nat.beq i j || hasI r j
def HL.without (ps : List (Nat × Nat)) : HL → HL
  | [] => []
  | (i, p) :: r => bif hasI ps i then HL.without ps r else (i, p) :: HL.without ps r
theorem shift_get : ∀ (L : HL) (i : Nat), (HL.shift L).get (i + 1000) = L.get i
  | [], _ => rfl
  | (j, p) :: r, i => by
    simp only [HL.shift, HL.get]
    have : Nat.beq (j + 1000) (i + 1000) = Nat.beq j i := by rw [Bool.eq_iff_iff]; simp
    rw [this, shift_get r i]
theorem shift_lt : ∀ (L : HL) (i : Nat), i < 1000 → (HL.shift L).get i = none
  | [], _, _ => rfl
  | (j, p) :: r, i, h => by
    simp only [HL.shift, HL.get]
    have : Nat.beq (j + 1000) i = false := by rw [← Bool.not_eq_true]; simp; omega
    rw [this, cond_false, shift_lt r i h]
theorem fromK_shift (L : HL) : FromK (HL.shift L) := fun i p h => by
  rcases Nat.lt_or_ge i 1000 with h1 | h1
  · rw [shift_lt L i h1] at h; cases h
  · exact h1
theorem without_in {ps : List (Nat × Nat)} : ∀ (L : HL) (i : Nat), hasI ps i = true → (HL.without ps L).get i = none
  | [], _, _ => rfl
  | (j, p) :: r, i, h => by
    simp only [HL.without]
    cases hj : hasI ps j
    · simp only [cond_false, HL.get]
      cases hb : Nat.beq j i
      · exact without_in r i h
      · have := Nat.eq_of_beq_eq_true hb
        subst this; rw [hj] at h; cases h
    · exact without_in r i h
theorem without_out {ps : List (Nat × Nat)} : ∀ (L : HL) (i : Nat), hasI ps i = false → (HL.without ps L).get i = L.get i
  | [], _, _ => rfl
  | (j, p) :: r, i, h => by
    simp only [HL.without]
    cases hj : hasI ps j
    · simp only [cond_false, HL.get]
      rw [without_out r i h]
    · simp only [cond_true, HL.get]
      cases hb : Nat.beq j i
      · exact without_out r i h
      · have := Nat.eq_of_beq_eq_true hb
        subst this; rw [hj] at h; cases h
/-- what is lent: under the callee's numbers -/
def lendL : List (Nat × Nat) → HL → HL
  | [], _ => []
  | (c, i) :: r, L => match L.get i with
    | some p => (c, p) :: lendL r L
    | none => lendL r L
def backL : List (Nat × Nat) → HL → HL
  | [], _ => []
  | (c, i) :: r, L => match L.get c with
    | some p => (i, p) :: backL r L
    | none => backL r L
def hasC : List (Nat × Nat) → Nat → Bool
  | [], _ => false
  | (c, _) :: r, j => Nat.beq c j || hasC r j
def okPairs : List (Nat × Nat) → Bool
  | [] => true
  | (c, i) :: r => !(hasC r c) && !(hasI r i) && Nat.blt c 1000 && okPairs r
def toI : List (Nat × Nat) → Nat → Nat
  | [], k => k
  | (c, i) :: r, k => bif Nat.beq c k then i else toI r k
def toC : List (Nat × Nat) → Nat → Nat
  | [], k => k
  | (c, i) :: r, k => bif Nat.beq i k then c else toC r k
theorem hasI_toI : ∀ (ps : List (Nat × Nat)) (k : Nat), hasC ps k = true → hasI ps (toI ps k) = true
  | [], k, h => by simp [hasC] at h
  | (c, i) :: r, k, h => by
    simp only [hasC, Bool.or_eq_true] at h
    simp only [toI, hasI]
    cases hb : Nat.beq c k
    · rw [hb] at h
      simp only [Bool.false_eq_true, false_or] at h
      simp only [cond_false, hasI_toI r k h, Bool.or_true]
    · simp
theorem hasC_toC : ∀ (ps : List (Nat × Nat)) (k : Nat), hasI ps k = true → hasC ps (toC ps k) = true
  | [], k, h => by simp [hasI] at h
  | (c, i) :: r, k, h => by
    simp only [hasI, Bool.or_eq_true] at h
    simp only [toC, hasC]
    cases hb : Nat.beq i k
    · rw [hb] at h
      simp only [Bool.false_eq_true, false_or] at h
      simp only [cond_false, hasC_toC r k h, Bool.or_true]
    · simp
theorem toC_toI : ∀ (ps : List (Nat × Nat)) (k : Nat), okPairs ps = true → hasC ps k = true → toC ps (toI ps k) = k
  | [], k, _, h => by simp [hasC] at h
  | (c, i) :: r, k, ho, h => by
    simp only [okPairs, Bool.and_eq_true, Bool.not_eq_true'] at ho
    simp only [hasC, Bool.or_eq_true] at h
    simp only [toI, toC]
    cases hb : Nat.beq c k
    · rw [hb] at h
      simp only [Bool.false_eq_true, false_or] at h
      simp only [cond_false]
      have h1 := hasI_toI r k h
      cases hb2 : Nat.beq i (toI r k)
      · exact toC_toI r k ho.2 h
      · have := Nat.eq_of_beq_eq_true hb2
        rw [← this, ho.1.1.2] at h1; cases h1
    · simpa using Nat.eq_of_beq_eq_true hb
theorem toI_toC : ∀ (ps : List (Nat × Nat)) (k : Nat), okPairs ps = true → hasI ps k = true → toI ps (toC ps k) = k
  | [], k, _, h => by simp [hasI] at h
  | (c, i) :: r, k, ho, h => by
    simp only [okPairs, Bool.and_eq_true, Bool.not_eq_true'] at ho
    simp only [hasI, Bool.or_eq_true] at h
    simp only [toI, toC]
    cases hb : Nat.beq i k
    · rw [hb] at h
      simp only [Bool.false_eq_true, false_or] at h
      simp only [cond_false]
      have h1 := hasC_toC r k h
      cases hb2 : Nat.beq c (toC r k)
      · exact toI_toC r k ho.2 h
      · have := Nat.eq_of_beq_eq_true hb2
        rw [← this, ho.1.1.1] at h1; cases h1
    · simpa using Nat.eq_of_beq_eq_true hb
theorem hasC_lt : ∀ (ps : List (Nat × Nat)) (k : Nat), okPairs ps = true → hasC ps k = true → k < 1000
  | [], k, _, h => by simp [hasC] at h
  | (c, i) :: r, k, ho, h => by
    simp only [okPairs, Bool.and_eq_true, Bool.not_eq_true'] at ho
    simp only [hasC, Bool.or_eq_true] at h
    rcases h with h | h
    · have := Nat.eq_of_beq_eq_true h
      have h2 := ho.1.2
      rw [Nat.blt_eq] at h2
      omega
    · exact hasC_lt r k ho.2 h
theorem lend_get {L : HL} : ∀ (ps : List (Nat × Nat)) (k : Nat) (p : It), okPairs ps = true → (lendL ps L).get k = some p → hasC ps k = true ∧ L.get (toI ps k) = some p
  | [], k, p, _, h => by simp [lendL, HL.get] at h
  | (c, i) :: r, k, p, ho, h => by
    simp only [okPairs, Bool.and_eq_true, Bool.not_eq_true'] at ho
    simp only [lendL] at h
    simp only [hasC, toI]
    have rest : (lendL r L).get k = some p → (Nat.beq c k || hasC r k) = true ∧ L.get (bif Nat.beq c k then i else toI r k) = some p := fun h => by
      obtain ⟨h1, h2⟩ := lend_get r k p ho.2 h
      cases hb : Nat.beq c k
      · simpa using ⟨h1, h2⟩
      · have := Nat.eq_of_beq_eq_true hb
        subst this; rw [ho.1.1.1] at h1; cases h1
    cases hi : L.get i with
    | none => rw [hi] at h; exact rest h
    | some q =>
      rw [hi] at h
      simp only [HL.get] at h
      cases hb : Nat.beq c k
      · rw [hb] at h; rw [← hb]; exact rest h
      · rw [hb] at h
        simp only [cond_true, Option.some.injEq] at h
        subst h
        simpa using hi
theorem back_get {L : HL} : ∀ (ps : List (Nat × Nat)) (k : Nat) (p : It), okPairs ps = true → (backL ps L).get k = some p → hasI ps k = true ∧ L.get (toC ps k) = some p
  | [], k, p, _, h => by simp [backL, HL.get] at h
  | (c, i) :: r, k, p, ho, h => by
    simp only [okPairs, Bool.and_eq_true, Bool.not_eq_true'] at ho
    simp only [backL] at h
    simp only [hasI, toC]
    have rest : (backL r L).get k = some p → (Nat.beq i k || hasI r k) = true ∧ L.get (bif Nat.beq i k then c else toC r k) = some p := fun h => by
      obtain ⟨h1, h2⟩ := back_get r k p ho.2 h
      cases hb : Nat.beq i k
      · simpa using ⟨h1, h2⟩
      · have := Nat.eq_of_beq_eq_true hb
        subst this; rw [ho.1.1.2] at h1; cases h1
    cases hi : L.get c with
    | none => rw [hi] at h; exact rest h
    | some q =>
      rw [hi] at h
      simp only [HL.get] at h
      cases hb : Nat.beq i k
      · rw [hb] at h; rw [← hb]; exact rest h
      · rw [hb] at h
        simp only [cond_true, Option.some.injEq] at h
        subst h
        simpa using hi
theorem back_some {L : HL} : ∀ (ps : List (Nat × Nat)) (k : Nat), (ps.all fun p => (L.get p.1).isSome) = true → hasI ps k = true → ((backL ps L).get k).isSome = true
  | [], k, _, h => by simp [hasI] at h
  | (c, i) :: r, k, ha, h => by
    simp only [List.all_cons, Bool.and_eq_true] at ha
    simp only [hasI, Bool.or_eq_true] at h
    simp only [backL]
    cases hc : L.get c with
    | none => rw [hc] at ha; simp at ha
    | some q =>
      simp only [HL.get]
      cases hb : Nat.beq i k
      · rw [hb] at h
        simp only [Bool.false_eq_true, false_or] at h
        exact back_some r k ha.2 h
      · rfl
theorem get_app (B : HL) : ∀ (A : HL) (k : Nat), HL.get (A ++ B) k = match A.get k with
    | some p => some p
    | none => B.get k
  | [], k => rfl
  | (i, p) :: r, k => by
    simp only [List.cons_append, HL.get]
    cases hb : Nat.beq i k
    · exact get_app B r k
    · rfl
theorem Mem.lend {w : World} {L : HL} (ps : List (Nat × Nat)) (ho : okPairs ps = true) (h : Mem w0 L w) : Mem w0 (lendL ps L ++ HL.shift (HL.without ps L)) w := by
  have key : ∀ k p, HL.get (lendL ps L ++ HL.shift (HL.without ps L)) k = some p → (hasC ps k = true ∧ k < 1000 ∧ L.get (toI ps k) = some p) ∨ (1000 ≤ k ∧ hasI ps (k - 1000) = false ∧ L.get (k - 1000) = some p) := fun k p hk => by
    rw [get_app] at hk
    cases hA : (lendL ps L).get k with
    | some q =>
      rw [hA] at hk
      simp only [Option.some.injEq] at hk
      subst hk
      obtain ⟨h1, h2⟩ := lend_get ps k q ho hA
      exact .inl ⟨h1, hasC_lt ps k ho h1, h2⟩
    | none =>
      rw [hA] at hk
      simp only at hk
      have h1 := fromK_shift _ k p hk
      obtain ⟨i, rfl⟩ : ∃ i, k = i + 1000 := ⟨k - 1000, by omega⟩
      rw [shift_get] at hk
      rw [Nat.add_sub_cancel]
      cases hi : hasI ps i with
      | true => rw [without_in L i hi] at hk; cases hk
      | false => rw [without_out L i hi] at hk; exact .inr ⟨by omega, rfl, hk⟩
  refine h.ren (fun k => if k < 1000 then toI ps k else k - 1000) (fun k p hk => ?_) (fun k k' p q hk hk' he => ?_)
  · rcases key k p hk with ⟨_, h1, h2⟩ | ⟨h1, _, h2⟩
    · show L.get (if k < 1000 then toI ps k else k - 1000) = some p
      rw [if_pos h1]; exact h2
    · show L.get (if k < 1000 then toI ps k else k - 1000) = some p
      rw [if_neg (by omega)]; exact h2
  · replace he : (if k < 1000 then toI ps k else k - 1000) = (if k' < 1000 then toI ps k' else k' - 1000) := he
    rcases key k p hk with ⟨h1, h2, _⟩ | ⟨h1, h2, _⟩ <;> rcases key k' q hk' with ⟨h3, h4, _⟩ | ⟨h3, h4, _⟩
    · rw [if_pos h2, if_pos h4] at he
      have e1 := toC_toI ps k ho h1
      have e2 := toC_toI ps k' ho h3
      rw [← e1, he, e2]
    · rw [if_pos h2, if_neg (by omega)] at he
      have := hasI_toI ps k h1
      rw [he, h4] at this; cases this
    · rw [if_neg (by omega), if_pos h4] at he
      have := hasI_toI ps k' h3
      rw [← he, h2] at this; cases this
    · rw [if_neg (by omega), if_neg (by omega)] at he
      omega
def keysLt : HL → Bool
  | [] => true
  | (i, _) :: r => Nat.blt i 1000 && keysLt r
theorem keys_ge : ∀ (L : HL) (i : Nat), keysLt L = true → 1000 ≤ i → L.get i = none
  | [], _, _, _ => rfl
  | (j, p) :: r, i, h, hi => by
    simp only [keysLt, Bool.and_eq_true, Nat.blt_eq] at h
    simp only [HL.get]
    have : Nat.beq j i = false := by rw [← Bool.not_eq_true]; simp; omega
    rw [this, cond_false]
    exact keys_ge r i h.2 hi
theorem Mem.back {w : World} {L Lc : HL} (ps : List (Nat × Nat)) (ho : okPairs ps = true) (ha : (ps.all fun p => (Lc.get p.1).isSome) = true) (hl : keysLt Lc = true) (h : Mem w0 (Lc ++ HL.shift (HL.without ps L)) w) : Mem w0 (backL ps Lc ++ L) w := by
  have key : ∀ i p, HL.get (backL ps Lc ++ L) i = some p → (hasI ps i = true ∧ Lc.get (toC ps i) = some p) ∨ (hasI ps i = false ∧ L.get i = some p) := fun i p hi => by
    rw [get_app] at hi
    cases hA : (backL ps Lc).get i with
    | some q =>
      rw [hA] at hi
      simp only [Option.some.injEq] at hi
      subst hi
      exact .inl (back_get ps i q ho hA)
    | none =>
      rw [hA] at hi
      cases hh : hasI ps i with
      | true => have := back_some (L := Lc) ps i ha hh; rw [hA] at this; cases this
      | false => exact .inr ⟨rfl, hi⟩
  refine h.ren (fun i => if hasI ps i = true then toC ps i else i + 1000) (fun i p hi => ?_) (fun i j p q hi hj he => ?_)
  · show HL.get _ (if hasI ps i = true then toC ps i else i + 1000) = some p
    rw [get_app]
    rcases key i p hi with ⟨h1, h2⟩ | ⟨h1, h2⟩
    · rw [if_pos h1, h2]
    · rw [if_neg (by simp [h1]), keys_ge Lc _ hl (by omega)]
      simp only
      rw [shift_get, without_out L i h1]; exact h2
  · replace he : (if hasI ps i = true then toC ps i else i + 1000) = (if hasI ps j = true then toC ps j else j + 1000) := he
    rcases key i p hi with ⟨h1, _⟩ | ⟨h1, _⟩ <;> rcases key j q hj with ⟨h3, _⟩ | ⟨h3, _⟩
    · rw [if_pos h1, if_pos h3] at he
      rw [← toI_toC ps i ho h1, he, toI_toC ps j ho h3]
    · rw [if_pos h1, if_neg (by simp [h3])] at he
      have := hasC_lt ps _ ho (hasC_toC ps i h1)
      omega
    · rw [if_neg (by simp [h1]), if_pos h3] at he
      have := hasC_lt ps _ ho (hasC_toC ps j h3)
      omega
    · rw [if_neg (by simp [h1]), if_neg (by simp [h3])] at he
      omega
/-- A call that works on what is lent to it. The callee's contract speaks of its own numbers, and of whatever else there is (K). -/
theorem S_callM (d : Nat) (ps : List (Nat × Nat)) {X : Type} {f : FuncId} {fx : Operand} {as : List Operand} {ts : Array TypeId} {cap : Array Value} {gs : List Bool} {vs : List Value} (hg : o.guard = none) (hd : o.dst = some d) (hdn : Nat.blt d n = true)
    (ho : o.op = .call { callee := .value fx, args := as.toArray, argTypes := ts }) (hf : F.ev fx = some (true, .func (.func f) #[] cap)) (hv : F.evs as = some (gs, vs)) (hgs : gs.all id = true) (hc : ∀ args w, (callFunc f args).run P w = .ok (.enter f args) w)
    (hps : okPairs ps = true) (rv : X → Value) (Px : X → Prop) (Lx : X → HL) (hall : ∀ x, (ps.all fun p => ((Lx x).get p.1).isSome) = true) (hlt : ∀ x, keysLt (Lx x) = true)
    (h : ∀ K, FromK K → ∀ w, Mem w0 (lendL ps L ++ K) w → Calls P f (vs.toArray ++ cap) w fun e w' => ∃ x, e = .returned (rv x) ∧ Px x ∧ Mem w0 (Lx x ++ K) w')
    (hK : ∀ x, Px x → S P w0 n ops l ((d, true, rv x) :: F) (backL ps (Lx x) ++ L) Q) : S P w0 n ops (o :: l) F L Q :=
  S_call d hg hd hdn ho hf hv hgs hc rv Px (fun x => backL ps (Lx x) ++ L)
    (fun w hM => (h _ (fromK_shift _) w (hM.lend ps hps)).mono fun e w' ⟨x, h1, h2, h3⟩ => ⟨x, h1, h2, Mem.back ps hps (hall x) (hlt x) h3⟩) hK
/-- A function's body that works on what its caller lent it. -/
theorem enterM_args {fn : Func} {R : Ending → World → Prop} {f : FuncId} {c : Code} {args : List Value} {w : World} (hM : Mem w0 L w) (hf : P.funcs[f]? = some fn) (hb : fn.body = some c) (hn : fn.ntmps = n) (hle : Nat.ble args.length n = true) (hF : argF 0 args = F)
    (h : ∀ Rb : Exit → Act → World → Prop, (∀ a w, bodyPost P fn R .ret a w → Rb .ret a w) → (∀ a w, bodyPost P fn R .ret a w → Rb .normal a w) → T P w0 n c F L Rb) : Calls P f args.toArray w R := by
  have hle' : args.length ≤ n := Nat.le_of_ble_eq_true hle
  have hFr : Fr n F { tmps := args.toArray ++ Array.replicate (n - args.toArray.size) undef, defers := [] } := by
    refine ⟨by simp; omega, rfl, ?_⟩
    intro i g v hi
    rw [← hF] at hi
    obtain ⟨rfl, _, h3⟩ := argF_get args 0 i g v hi
    simp only [Nat.sub_zero] at h3
    have hlt : i < args.length := by
      rcases Nat.lt_or_ge i args.length with h | h
      · exact h
      · rw [List.getElem?_eq_none h] at h3; cases h3
    have h4 : (args.toArray ++ Array.replicate (n - args.toArray.size) undef)[i]? = some v := by
      rw [Array.getElem?_append_left (by simpa using hlt)]; simpa using h3
    simp only [Array.getD_eq_getD_getElem?, h4, Option.getD_some, cond_true]
  exact calls_of_wp hf hb (by rw [hn]; exact h _ (fun _ _ h => h) (fun _ _ h => h) _ _ hFr hM)
def rngLt : List (Nat × Nat) → Bool
  | [] => true
  | (_, b) :: r => Nat.blt b 1000 && rngLt r
theorem memR_lt : ∀ (ks : List (Nat × Nat)) (i : Nat), rngLt ks = true → 1000 ≤ i → memR ks i = false
  | [], _, _, _ => rfl
  | (a, b) :: r, i, h, hi => by
    simp only [rngLt, Bool.and_eq_true, Nat.blt_eq] at h
    have hb : Nat.ble i b = false := by rw [← Bool.not_eq_true, Nat.ble_eq]; omega
    simp only [memR, memR_lt r i h.2 hi, hb, Bool.and_false, Bool.or_false]
/-- The rest, of which nothing is known, stays. -/
theorem kl_rest {ks : List (Nat × Nat)} {K : HL} (hK : FromK K) (hks : rngLt ks = true) : KeepL ks K K := fun i p h => ⟨memR_lt ks i hks (hK i p h), h⟩
end
end Go.Eng
