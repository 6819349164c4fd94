/- A region that draws its order, reads and writes mixed: one order serves all, if the reads that come at will find the same whenever they come. No condition. -/
import Derived.Test.YtgbldojgbpgjbaaGreatDoorTail
import Derived.OrdersHeld
namespace Go.Eng
set_option linter.unusedSimpArgs false
set_option linter.unusedVariables false
set_option linter.unusedSectionVars false
open Go.RowKit
/-! ### What waits for what -/
def maskOf (acc : List Nat) (es : List Edge) (m : Nat) : Nat :=
  match es with
  | [] => m
  | e :: r => maskOf acc r (bif Region.binds .any e then m ||| 2 ^ e.on ||| acc.getD e.on 0 else m)
def masks : List Oper → List Nat → List Nat
  | [], acc => acc
  | o :: r, acc => masks r (acc ++ [maskOf acc o.after.toList 0])
inductive Waits (ops : Array Oper) : Nat → Nat → Prop
  | one {i : Nat} {o : Oper} {e : Edge} : ops[i]? = some o → e ∈ o.after → Region.binds .any e = true → Waits ops i e.on
  | more {i k : Nat} {o : Oper} {e : Edge} : ops[i]? = some o → e ∈ o.after → Region.binds .any e = true → Waits ops e.on k → Waits ops i k
section
variable {ops : Array Oper}
theorem maskOf_sound {acc : List Nat} {o : Oper} {i k : Nat} (hacc : ∀ j, (acc.getD j 0).testBit k = true → Waits ops j k) (hi : ops[i]? = some o) : ∀ (es : List Edge) (m : Nat), (∀ e ∈ es, e ∈ o.after) → (m.testBit k = true → Waits ops i k) → (maskOf acc es m).testBit k = true → Waits ops i k
  | [], m, _, hm, h => hm h
  | e :: r, m, hes, hm, h => by
    unfold maskOf at h
    refine maskOf_sound hacc hi r _ (fun e' he' => hes e' (List.mem_cons_of_mem _ he')) (fun hb => ?_) h
    cases hbi : Region.binds .any e with
    | false => rw [hbi] at hb; exact hm hb
    | true =>
      rw [hbi, cond_true, Nat.testBit_or, Nat.testBit_or, Bool.or_eq_true, Bool.or_eq_true] at hb
      rcases hb with (hb | hb) | hb
      · exact hm hb
      · rw [Nat.testBit_two_pow] at hb
        have : e.on = k := by simpa using hb
        subst this
        exact .one hi (hes e (List.mem_cons_self)) hbi
      · exact .more hi (hes e (List.mem_cons_self)) hbi (hacc _ hb)
theorem masks_sound : ∀ (l : List Oper) (acc : List Nat), (∀ j, l[j]? = ops[acc.length + j]?) → (∀ i k, (acc.getD i 0).testBit k = true → Waits ops i k) → ∀ i k, ((masks l acc).getD i 0).testBit k = true → Waits ops i k
  | [], acc, _, h => h
  | o :: r, acc, hl, h => by
    have h0 : ops[acc.length]? = some o := by have := hl 0; simpa using this.symm
    unfold masks
    refine masks_sound r _ (fun j => ?_) (fun i k hb => ?_)
    · have := hl (j + 1)
      simpa [Nat.add_assoc, Nat.add_comm 1 j] using this
    · by_cases hi : i < acc.length
      · rw [List.getD_eq_getElem?_getD, List.getElem?_append_left hi, ← List.getD_eq_getElem?_getD] at hb; exact h i k hb
      · by_cases hi2 : i = acc.length
        · subst hi2
          rw [List.getD_eq_getElem?_getD, List.getElem?_append_right (Nat.le_refl _), Nat.sub_self] at hb
          simp only [List.getElem?_cons_zero, Option.getD_some] at hb
          exact maskOf_sound (fun j => h j k) h0 _ 0 (fun e he => by simpa using he) (fun hz => by simp at hz) hb
        · rw [List.getD_eq_getElem?_getD, List.getElem?_eq_none (by simp; omega)] at hb
          simp at hb
def Closed (ops : Array Oper) (s : Array Bool) : Prop := ∀ j oj, ops[j]? = some oj → s.getD j false = true → ∀ e ∈ oj.after, Region.binds .any e = true → s.getD e.on false = true
theorem Closed.set {s : Array Bool} {i : Nat} (h : Closed ops s) (hi : i ∈ Region.ready .any ops s) : Closed ops (s.setIfInBounds i true) := by
  obtain ⟨_, oi, hoi, hall⟩ := mem_ready.1 hi
  intro j oj hj hl e he hb
  by_cases hij : i = j
  · subst hij
    obtain rfl : oj = oi := Option.some.inj (hj.symm.trans hoi)
    exact getD_set_true (hall e he hb)
  · rw [getD_set_ne false hij] at hl
    exact getD_set_true (h j oj hj hl e he hb)
theorem Waits.listed {s : Array Bool} {i k : Nat} (hw : Waits ops i k) (h : Closed ops s) : s.getD i false = true → s.getD k false = true := by
  induction hw with
  | one hi he hb => intro hl; exact h _ _ hi hl _ he hb
  | more hi he hb _ ih => intro hl; exact ih (h _ _ hi hl _ he hb)
theorem Waits.ready {s : Array Bool} {i k : Nat} (hw : Waits ops i k) (h : Closed ops s) (hr : i ∈ Region.ready .any ops s) : s.getD k false = true := by
  obtain ⟨_, oi, hoi, hall⟩ := mem_ready.1 hr
  cases hw with
  | one hi he hb =>
    obtain rfl := Option.some.inj (hi.symm.trans hoi)
    exact hall _ he hb
  | more hi he hb hw' =>
    obtain rfl := Option.some.inj (hi.symm.trans hoi)
    exact hw'.listed h (hall _ he hb)
end
/-! ### One order for all -/
def conc (frs : List Bool) (A : List Nat) (j i : Nat) : Bool := frs.getD i false && !(Nat.beq j i) && !((A.getD j 0).testBit i) && !((A.getD i 0).testBit j)
def QN (Q : Exit → Act → World → Prop) : Exit → Act → World → Prop
  | .normal, a, w => Q .normal a w
  | _, _, _ => False
section
variable {P : Program} {ops : Array Oper} {cc : Nat → Nat → Bool} {K : Nat → World → Prop} {Q : Exit → Act → World → Prop}
def anyK (P : Program) (ops : Array Oper) (cc : Nat → Nat → Bool) (K : Nat → World → Prop) (Q : Exit → Act → World → Prop) : Nat → Array Bool → Act → World → Prop
  | 0, s, a, w => Region.ready .any ops s = [] ∧ Q .normal a w
  | f + 1, s, a, w => (Region.ready .any ops s = [] → Q .normal a w) ∧ ∀ j, j ∈ Region.ready .any ops s → wpOp P ops Q j (fun a' w' => (∀ i, cc j i = true → K i w → K i w') ∧ anyK P ops cc K Q f (s.setIfInBounds j true) a' w') a w
theorem anyK_any : ∀ (f : Nat) (s : Array Bool) (a : Act) (w : World), anyK P ops cc K Q f s a w → wpAny P .any ops Q f s a w
  | 0, _, _, _, h => h
  | f + 1, _, _, _, h => ⟨h.1, fun i hi => wpOp_mono (fun a' w' h' => anyK_any f _ a' w' h'.2) (h.2 i hi)⟩
theorem anyK_first {i : Nat} {oi : Oper} {v : Value} (hQ : ∀ c a w, ¬ Q (.panic c) a w) (hi : ops[i]? = some oi) (hsel : ∀ (j : Nat) (o : Oper) cs b, ops[j]? = some o → o.op ≠ .select cs b) (hcc : ∀ j, j ≠ i → cc j i = false → Waits ops j i ∨ Waits ops i j) (f : Nat) :
    ∀ (s : Array Bool) (a : Act) (w : World), Closed ops s → (∀ j oj, ops[j]? = some oj → j ≠ i → s.getD j true = false → (∀ e ∈ oj.after, Region.binds .any e = true → e.on ≠ i) → oi.apart ops oj = true) →
      i ∈ Region.ready .any ops s → YieldsIf P ops (K i) oi v a → K i w → anyK P ops cc K Q f (s.setIfInBounds i true) (a.put oi.dst v) w → anyK P ops cc K Q (f + 1) s a w := by
  induction f with
  | zero =>
    intro s a w _ _ hr hy hK H
    refine ⟨fun h => absurd (h ▸ hr) List.not_mem_nil, fun j hj => ?_⟩
    by_cases hji : j = i
    · subst hji; exact hy.wpOp hi hK ⟨fun _ _ h => h, H⟩
    · exact absurd (H.1 ▸ ready_mono hj hji) List.not_mem_nil
  | succ f ih =>
    intro s a w hcl hfree hr hy hK H
    have hun := (mem_ready.1 hr).1
    refine ⟨fun h => absurd (h ▸ hr) List.not_mem_nil, fun j hj => ?_⟩
    by_cases hji : j = i
    · subst hji; exact hy.wpOp hi hK ⟨fun _ _ h => h, H⟩
    · obtain ⟨hju, oj, hoj, hall⟩ := mem_ready.1 hj
      have hput := wpOp_putIf hoj (hfree j oj hoj hji hju (not_on hun hall)) (fun cs b => hsel i oi cs b hi) (fun cs b => hsel j oj cs b hoj) (fun c a' w' h => absurd h (hQ _ _ _)) hy (H.2 j (ready_mono hj hji))
      have hcji : cc j i = true := by
        cases hc : cc j i with
        | true => rfl
        | false =>
          rcases hcc j hji hc with h | h
          · have := h.ready hcl hj; rw [getD_both hun] at this; cases this
          · have := h.ready hcl hr; rw [getD_both hju] at this; cases this
      refine wpOp_mono (fun a' w' h3 => ⟨h3.2.1, ih _ a' w' (hcl.set hj) (fun k ok hk hki hu hno => hfree k ok hk hki ?_ hno) (ready_mono hr (Ne.symm hji)) h3.1 (h3.2.1 i hcji hK) ?_⟩) hput
      · by_cases hjk : j = k
        · subst hjk; exact hju
        · rw [getD_set_ne true hjk] at hu; exact hu
      · rw [Array.setIfInBounds_comm _ _ hji]; exact h3.2.2
def permB (ops : Array Oper) (frs : List Bool) : List Nat → Array Bool → Bool
  | [], s => (Region.ready .any ops s).isEmpty
  | k :: r, s => (bif frs.getD k false then (Region.ready .any ops s).contains k && Region.free .any ops s k else decide (Region.ready .any ops s = [k])) && permB ops frs r (s.setIfInBounds k true)
def permK (P : Program) (ops : Array Oper) (frs : List Bool) (cc : Nat → Nat → Bool) (K : Nat → World → Prop) (Q : Exit → Act → World → Prop) : List Nat → Act → World → Prop
  | [], a, w => Q .normal a w
  | k :: r, a, w => ∃ o, ops[k]? = some o ∧ ((frs.getD k false = true ∧ ∃ v, YieldsIf P ops (K k) o v a ∧ K k w ∧ permK P ops frs cc K Q r (a.put o.dst v) w) ∨
      (frs.getD k false = false ∧ wpOp P ops Q k (fun a' w' => (∀ i, cc k i = true → K i w') ∧ permK P ops frs cc K Q r a' w') a w))
theorem permK_any {frs : List Bool} (hQ : ∀ c a w, ¬ Q (.panic c) a w) (hsel : Region.noSelect ops = true) (hcc : ∀ i j, frs.getD i false = true → j ≠ i → cc j i = false → Waits ops j i ∨ Waits ops i j) :
    ∀ (r : List Nat) (s : Array Bool) (a : Act) (w : World), Closed ops s → permB ops frs r s = true → permK P ops frs cc K Q r a w → anyK P ops cc K Q r.length s a w
  | [], s, a, w, _, hB, h => ⟨by simpa [permB] using hB, h⟩
  | k :: r, s, a, w, hcl, hB, h => by
    obtain ⟨o, ho, h⟩ := h
    unfold permB at hB
    rw [Bool.and_eq_true] at hB
    rcases h with ⟨hf, v, hy, hK, h⟩ | ⟨hf, h⟩
    · rw [hf, cond_true, Bool.and_eq_true] at hB
      have hr : k ∈ Region.ready .any ops s := by simpa using hB.1.1
      exact anyK_first hQ ho (Region.noSelect_spec hsel) (fun j hj hc => hcc k j hf hj hc) r.length s a w hcl (Region.free_spec ho hB.1.2) hr hy hK (permK_any hQ hsel hcc r _ _ w (hcl.set hr) hB.2 h)
    · rw [hf, cond_false, decide_eq_true_eq] at hB
      have hr : k ∈ Region.ready .any ops s := by rw [hB.1]; exact List.mem_cons_self
      refine ⟨fun h0 => absurd (h0 ▸ hr) List.not_mem_nil, fun j hj => ?_⟩
      rw [hB.1] at hj
      obtain rfl : j = k := by simpa using hj
      exact wpOp_mono (fun a' w' h' => ⟨fun i hc _ => h'.1 i hc, permK_any hQ hsel hcc r _ a' w' (hcl.set hr) hB.2 h'.2⟩) h
theorem region_perm {id : Nat} {a : Act} {w : World} {l : List Oper} {frs : List Bool} {A : List Nat} {perm : List Nat} (hm : P.follows .mixedOrders = true) (hsel : Region.noSelect l.toArray = true) (hA : masks l [] = A) (hlen : perm.length = l.length)
    (hB : permB l.toArray frs perm (Array.replicate l.length false) = true) (h : permK P l.toArray frs (conc frs A) K (QN Q) perm a w.drew) : (Code.region id l.toArray true).wp P Q a w := by
  have hsound := masks_sound (ops := l.toArray) l [] (fun j => by simp) (fun i k hb => by simp at hb)
  rw [hA] at hsound
  have H := permK_any (fun c a w h => h) hsel (fun i j hf hj hc => by
    unfold conc at hc
    rw [hf] at hc
    have hb : Nat.beq j i = false := by
      cases hh : Nat.beq j i
      · rfl
      · exact absurd (Nat.eq_of_beq_eq_true hh) hj
    simp only [hb, Bool.not_false, Bool.true_and, Bool.and_eq_false_iff, Bool.not_eq_false'] at hc
    rcases hc with hc | hc
    · exact .inl (hsound _ _ hc)
    · exact .inr (hsound _ _ hc)) perm (Array.replicate l.length false) a w.drew (fun j oj _ hl => absurd hl (by rw [getD_replicate_false]; simp)) hB h
  rw [hlen] at H
  refine wp_mono (wp_region_any (Q := QN Q) hm (anyK_any _ _ _ _ (by simpa using H))) fun e a w hq => ?_
  cases e <;> first | exact hq | exact hq.elim
end
/-! ### The walk in that order -/
def selL (L : HL) : List Nat → HL
  | [] => []
  | i :: r => match L.get i with
    | some p => (i, p) :: selL L r
    | none => selL L r
def idsOf : List (Nat × List Nat) → Nat → List Nat
  | [], _ => []
  | (j, is) :: r, i => bif Nat.beq j i then is else idsOf r i
def plainOp : Op → Bool
  | .move _ | .assign _ | .pick .. | .binOp .. | .unOp .. | .convert .. | .fieldAddr .. | .load .. | .extract .. | .build .. | .makeFunc .. | .slice .. | .lookup .. | .indexAddr .. | .index .. => true
  | _ => false
def NV : Result Next → Prop
  | .ok (.enter _ _) _ => False
  | .ok .skip _ => False
  | _ => True
section
variable {P : Program} {w0 : World} {n : Nat} {ops : Array Oper} {l : List Oper} {F : FL} {L L0 : HL} {Q : Exit → Act → World → Prop} {o : Oper} {g : Bool} {v : Value} {x : Operand} {t : TypeId}
theorem nv_v (m : Sem Value) (w : World) : NV ((do let x ← m; pure (Next.value x) : Sem Next).run P w) := by
  rw [Sem.run_bind]
  cases m.run P w <;> exact trivial
theorem plain_nv (hp : plainOp o.op = true) (ρ : Operand → Value) (w : World) : NV ((execOp ρ o).run P w) := by
  unfold execOp
  cases ho : o.op <;> rw [ho] at hp <;> first | (cases hp; done) | exact trivial | exact nv_v _ w | skip
  all_goals
    simp only [Sem.run_bind]
    generalize Sem.run P _ _ = r
    cases r <;> exact trivial
def Z (P : Program) (w0 : World) (F : FL) (L : HL) (g : Bool) (o : Oper) (v : Value) : Prop := ∀ n a, Fr n F a → g = true → ∀ w, Mem w0 L w → (execOp a.eval o).run P w = .ok (.value v) w
theorem Y.z (h : Y P w0 F L g o v) (hp : plainOp o.op = true) : Z P w0 F L g o v := fun n a hF hg w hM => by
  have h1 := h n a hF hg w hM
  have h2 := plain_nv (P := P) hp a.eval w
  unfold Oper.quietAt at h1
  generalize (execOp a.eval o).run P w = r at *
  cases r with
  | halt x w' => exact h1.elim
  | ok m w' =>
    cases m <;> simp only [Oper.quietUpon] at h1 <;> first | exact h1.elim | skip
    · obtain ⟨rfl, rfl⟩ := h1; rfl
    all_goals first | exact h2.elim | (simp only [NV] at h2)
theorem Z.of (h : ∀ n a, Fr n F a → ∀ w, Mem w0 L w → (execOp a.eval o).run P w = .ok (.value v) w) : Z P w0 F L g o v := fun n a hF _ w hM => h n a hF w hM
/-- what is left of a region, in the order that serves all; the reads look at what was known at its beginning (L0) -/
def R (P : Program) (w0 : World) (n : Nat) (ops : Array Oper) (frs : List Bool) (A : List Nat) (tab : List (Nat × List Nat)) (L0 : HL) (r : List Nat) (F : FL) (L : HL) (Q : Exit → Act → World → Prop) : Prop :=
  ∀ a w, Fr n F a → Mem w0 L w → permK P ops frs (conc frs A) (fun i => Mem w0 (selL L0 (idsOf tab i))) (QN Q) r a w
variable {frs : List Bool} {A : List Nat} {tab : List (Nat × List Nat)} {r : List Nat}
def PK (P : Program) (w0 : World) (ops : Array Oper) (frs : List Bool) (A : List Nat) (tab : List (Nat × List Nat)) (L0 : HL) (k : Nat) (r : List Nat) (Q : Exit → Act → World → Prop) : Exit → Act → World → Prop
  | .normal, a, w => (∀ i, conc frs A k i = true → Mem w0 (selL L0 (idsOf tab i)) w) ∧ permK P ops frs (conc frs A) (fun i => Mem w0 (selL L0 (idsOf tab i))) (QN Q) r a w
  | _, _, _ => False
theorem R_go {y : Code} {Q' : Exit → Act → World → Prop} (hq : ∀ a w, y.wp P Q' a w → Q .normal a w) (h : T P w0 n y F L Q') : R P w0 n ops frs A tab L0 [] F L Q := fun a w hF hM => hq a w (h a w hF hM)
theorem R_free (k d : Nat) (ho : ops[k]? = some o) (hf : frs.getD k false = true) (hg : G F ops o g) (hd : o.dst = some d) (hdn : Nat.blt d n = true) (v : Value) (hs : SubL L (selL L0 (idsOf tab k))) (hz : Z P w0 F (selL L0 (idsOf tab k)) g o v)
    (hK : R P w0 n ops frs A tab L0 r ((d, g, v) :: F) L Q) : R P w0 n ops frs A tab L0 (k :: r) F L Q := fun a w hF hM => by
  have hw := hg n a hF
  have hput := hF.put g v hdn
  have key := hK _ w hput hM
  cases g with
  | true => exact ⟨o, ho, .inl ⟨hf, v, .inl ⟨hw, fun w' hw' => hz n a hF rfl w' hw'⟩, hM.sub hs, by rw [hd]; exact key⟩⟩
  | false => exact ⟨o, ho, .inl ⟨hf, undef, .inr ⟨hw, rfl⟩, hM.sub hs, by rw [hd]; exact key⟩⟩
theorem Rf_ (k d : Nat) (ho : ops[k]? = some o) (hf : frs.getD k false = true) (hg : o.guard = none) (hd : o.dst = some d) (hdn : Nat.blt d n = true) (v : Value) (hs : SubL L (selL L0 (idsOf tab k))) (hz : Z P w0 F (selL L0 (idsOf tab k)) true o v)
    (hK : R P w0 n ops frs A tab L0 r ((d, true, v) :: F) L Q) : R P w0 n ops frs A tab L0 (k :: r) F L Q := R_free k d ho hf (G_no hg) hd hdn v hs hz hK
theorem upon_qn {a : Act} {K : Act → World → Prop} {Q1 Q2 : Exit → Act → World → Prop} (h1 : ∀ e a w, e ≠ .normal → ¬ Q1 e a w) (res : Result Next) (h : o.upon P a K Q1 res) : o.upon P a K Q2 res := by
  cases res with
  | ok m w' =>
    cases m <;> simp only [Oper.upon] at h ⊢ <;> first | exact h | skip
    refine Calls.mono h fun e w'' he => ?_
    cases e with
    | returned u => exact he
    | panicked c => exact absurd he (h1 _ _ _ (by simp))
    | outgrown => obtain ⟨a', w3, h3⟩ := he; exact absurd h3 (h1 _ _ _ (by simp))
  | halt y w' => cases y <;> simp only [Oper.upon] at h ⊢ <;> first | exact h | exact absurd h (h1 _ _ _ (by simp))
theorem R_chain (k : Nat) (ho : ops[k]? = some o) (hf : frs.getD k false = false) (hS : S P w0 n ops [o] F L (PK P w0 ops frs A tab L0 k r Q)) : R P w0 n ops frs A tab L0 (k :: r) F L Q := fun a w hF hM => by
  refine ⟨o, ho, .inr ⟨hf, ?_⟩⟩
  have h := hS a w hF hM
  have hne : ∀ e a w, e ≠ .normal → ¬ PK P w0 ops frs A tab L0 k r Q e a w := fun e a w he h => by cases e <;> first | exact he rfl | exact h
  unfold wpList at h
  unfold wpOp
  rw [ho]
  simp only
  split
  · rename_i hw
    rw [if_pos hw] at h
    rcases h with h | ⟨_, a', w', h⟩
    · exact .inl (upon_qn hne _ h)
    · exact absurd h (hne _ _ _ (by simp))
  · rename_i hw
    rw [if_neg hw] at h
    exact h
def Fits (frs : List Bool) (A : List Nat) (k : Nat) (L0 L : HL) : List (Nat × List Nat) → Prop
  | [] => True
  | (i, is) :: r => (conc frs A k i = false ∨ SubL L (selL L0 is)) ∧ Fits frs A k L0 L r
theorem Fits.spec {k i : Nat} : ∀ {tab : List (Nat × List Nat)}, Fits frs A k L0 L tab → conc frs A k i = true → SubL L (selL L0 (idsOf tab i))
  | [], _, _ => trivial
  | (j, is) :: r, h, hc => by
    unfold idsOf
    cases hb : Nat.beq j i
    · exact Fits.spec h.2 hc
    · have := Nat.eq_of_beq_eq_true hb
      subst this
      rcases h.1 with h1 | h1
      · rw [h1] at hc; cases hc
      · exact h1
theorem R_next {k : Nat} (hfit : Fits frs A k L0 L tab) (h : R P w0 n ops frs A tab L0 r F L Q) : S P w0 n ops [] F L (PK P w0 ops frs A tab L0 k r Q) := fun a w hF hM =>
  ⟨fun i hc => hM.sub (hfit.spec hc), h a w hF hM⟩
theorem T_perm {id : Nat} {l : List Oper} (perm : List Nat) (frs : List Bool) (A : List Nat) (tab : List (Nat × List Nat)) (hm : P.follows .mixedOrders = true) (hsel : Region.noSelect l.toArray = true) (hA : masks l [] = A) (hlen : perm.length = l.length) (hB : permB l.toArray frs perm (Array.replicate l.length false) = true)
    (h : R P w0 n l.toArray frs A tab L perm F L Q) : T P w0 n (.region id l.toArray true) F L Q := fun a w hF hM => region_perm hm hsel hA hlen hB (h a w.drew hF hM.drew)
end
end Go.Eng
