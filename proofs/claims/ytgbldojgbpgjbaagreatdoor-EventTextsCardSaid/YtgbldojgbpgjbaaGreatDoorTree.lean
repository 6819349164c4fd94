/- Regions that draw their order and of which two parts write, each at will: the order is a tree. Also a cut behind a region. No condition. -/
import Derived.Test.YtgbldojgbpgjbaaGreatDoorPerm
namespace Go.Eng
open Go.RowKit
set_option linter.unusedSimpArgs false
set_option linter.unusedVariables false
inductive PTree where
  | nil
  | one (k : Nat) (t : PTree)
  | two (k1 : Nat) (t1 : PTree) (k2 : Nat) (t2 : PTree)
def PTree.len : PTree → Nat
  | .nil => 0
  | .one _ t => t.len + 1
  | .two _ t _ _ => t.len + 1
section
variable {P : Program} {ops : Array Oper} {cc : Nat → Nat → Bool} {K : Nat → World → Prop} {Q : Exit → Act → World → Prop}
def permB2 (ops : Array Oper) (frs : List Bool) : PTree → Array Bool → Bool
  | .nil, s => (Region.ready .any ops s).isEmpty
  | .one k r, s => (bif frs.getD k false then (Region.ready .any ops s).contains k && Region.free .any ops s k else decide (Region.ready .any ops s = [k])) && permB2 ops frs r (s.setIfInBounds k true)
  | .two k1 t1 k2 t2, s => decide (Region.ready .any ops s = [k1, k2]) && Nat.beq t1.len t2.len && permB2 ops frs t1 (s.setIfInBounds k1 true) && permB2 ops frs t2 (s.setIfInBounds k2 true)
def permK2 (P : Program) (ops : Array Oper) (frs : List Bool) (cc : Nat → Nat → Bool) (K : Nat → World → Prop) (Q : Exit → Act → World → Prop) : PTree → Act → World → Prop
  | .nil, a, w => Q .normal a w
  | .one k r, a, w => ∃ o, ops[k]? = some o ∧ ((frs.getD k false = true ∧ ∃ v, YieldsIf P ops (K k) o v a ∧ K k w ∧ permK2 P ops frs cc K Q r (a.put o.dst v) w) ∨
      (frs.getD k false = false ∧ wpOp P ops Q k (fun a' w' => (∀ i, cc k i = true → K i w') ∧ permK2 P ops frs cc K Q r a' w') a w))
  | .two k1 t1 k2 t2, a, w => wpOp P ops Q k1 (fun a' w' => (∀ i, cc k1 i = true → K i w') ∧ permK2 P ops frs cc K Q t1 a' w') a w ∧ wpOp P ops Q k2 (fun a' w' => (∀ i, cc k2 i = true → K i w') ∧ permK2 P ops frs cc K Q t2 a' w') a w
theorem permK2_any {frs : List Bool} (hQ : ∀ c a w, ¬ Q (.panic c) a w) (hsel : Region.noSelect ops = true) (hcc : ∀ i j, frs.getD i false = true → j ≠ i → cc j i = false → Waits ops j i ∨ Waits ops i j) :
    ∀ (r : PTree) (s : Array Bool) (a : Act) (w : World), Closed ops s → permB2 ops frs r s = true → permK2 P ops frs cc K Q r a w → anyK P ops cc K Q r.len s a w
  | .nil, s, a, w, _, hB, h => ⟨by simpa [permB2] using hB, h⟩
  | .one k r, s, a, w, hcl, hB, h => by
    obtain ⟨o, ho, h⟩ := h
    unfold permB2 at hB
    rw [Bool.and_eq_true] at hB
    rcases h with ⟨hf, v, hy, hK, h⟩ | ⟨hf, h⟩
    · rw [hf, cond_true, Bool.and_eq_true] at hB
      have hr : k ∈ Region.ready .any ops s := by simpa using hB.1.1
      exact anyK_first hQ ho (Region.noSelect_spec hsel) (fun j hj hc => hcc k j hf hj hc) r.len s a w hcl (Region.free_spec ho hB.1.2) hr hy hK (permK2_any hQ hsel hcc r _ _ w (hcl.set hr) hB.2 h)
    · rw [hf, cond_false, decide_eq_true_eq] at hB
      have hr : k ∈ Region.ready .any ops s := by rw [hB.1]; exact List.mem_cons_self
      refine ⟨fun h0 => absurd (h0 ▸ hr) List.not_mem_nil, fun j hj => ?_⟩
      rw [hB.1] at hj
      obtain rfl : j = k := by simpa using hj
      exact wpOp_mono (fun a' w' h' => ⟨fun i hc _ => h'.1 i hc, permK2_any hQ hsel hcc r _ a' w' (hcl.set hr) hB.2 h'.2⟩) h
  | .two k1 t1 k2 t2, s, a, w, hcl, hB, h => by
    obtain ⟨h1, h2⟩ := h
    unfold permB2 at hB
    simp only [Bool.and_eq_true, decide_eq_true_eq] at hB
    obtain ⟨⟨⟨hr, hlen⟩, hB1⟩, hB2⟩ := hB
    have hl : t1.len = t2.len := Nat.eq_of_beq_eq_true hlen
    have hr1 : k1 ∈ Region.ready .any ops s := by rw [hr]; exact List.mem_cons_self
    have hr2 : k2 ∈ Region.ready .any ops s := by rw [hr]; exact List.mem_cons_of_mem _ List.mem_cons_self
    refine ⟨fun h0 => absurd (h0 ▸ hr1) List.not_mem_nil, fun j hj => ?_⟩
    rw [hr] at hj
    simp only [List.mem_cons, List.not_mem_nil, or_false] at hj
    rcases hj with rfl | rfl
    · exact wpOp_mono (fun a' w' h' => ⟨fun i hc _ => h'.1 i hc, permK2_any hQ hsel hcc t1 _ a' w' (hcl.set hr1) hB1 h'.2⟩) h1
    · exact wpOp_mono (fun a' w' h' => ⟨fun i hc _ => h'.1 i hc, by have := permK2_any hQ hsel hcc t2 _ a' w' (hcl.set hr2) hB2 h'.2; rw [← hl] at this; exact this⟩) h2
theorem region_perm2 {id : Nat} {a : Act} {w : World} {l : List Oper} {frs : List Bool} {A : List Nat} {perm : PTree} (hm : P.follows .mixedOrders = true) (hsel : Region.noSelect l.toArray = true) (hA : masks l [] = A) (hlen : perm.len = l.length)
    (hB : permB2 l.toArray frs perm (Array.replicate l.length false) = true) (h : permK2 P l.toArray frs (conc frs A) K (QN Q) perm a w.drew) : (Code.region id l.toArray true).wp P Q a w := by
  have hsound := masks_sound (ops := l.toArray) l [] (fun j => by simp) (fun i k hb => by simp at hb)
  rw [hA] at hsound
  have H := permK2_any (fun c a w h => h) hsel (fun i j hf hj hc => by
    unfold conc at hc
    rw [hf] at hc
    have hb : Nat.beq j i = false := by
      cases hh : Nat.beq j i
      · rfl
      · exact absurd (Nat.eq_of_beq_eq_true hh) hj
    simp only [hb, Bool.not_false, Bool.true_and, Bool.and_eq_false_iff, Bool.not_eq_false'] at hc
    rcases hc with hc | hc
    · exact .inl (hsound _ _ hc)
    · exact .inr (hsound _ _ hc)) perm (Array.replicate l.length false) a w.drew (fun j oj _ hl => absurd hl (by rw [getD_replicate_false]; simp)) hB h
  rw [hlen] at H
  refine wp_mono (wp_region_any (Q := QN Q) hm (anyK_any _ _ _ _ (by simpa using H))) fun e a w hq => ?_
  cases e <;> first | exact hq | exact hq.elim
end
section
variable {P : Program} {w0 : World} {n : Nat} {ops : Array Oper} {F : FL} {L L0 : HL} {Q : Exit → Act → World → Prop} {o : Oper} {g : Bool} {frs : List Bool} {A : List Nat} {tab : List (Nat × List Nat)} {r : PTree}
def R2 (P : Program) (w0 : World) (n : Nat) (ops : Array Oper) (frs : List Bool) (A : List Nat) (tab : List (Nat × List Nat)) (L0 : HL) (r : PTree) (F : FL) (L : HL) (Q : Exit → Act → World → Prop) : Prop :=
  ∀ a w, Fr n F a → Mem w0 L w → permK2 P ops frs (conc frs A) (fun i => Mem w0 (selL L0 (idsOf tab i))) (QN Q) r a w
def PK2 (P : Program) (w0 : World) (ops : Array Oper) (frs : List Bool) (A : List Nat) (tab : List (Nat × List Nat)) (L0 : HL) (k : Nat) (r : PTree) (Q : Exit → Act → World → Prop) : Exit → Act → World → Prop
  | .normal, a, w => (∀ i, conc frs A k i = true → Mem w0 (selL L0 (idsOf tab i)) w) ∧ permK2 P ops frs (conc frs A) (fun i => Mem w0 (selL L0 (idsOf tab i))) (QN Q) r a w
  | _, _, _ => False
theorem R2_nil (h : ∀ a w, Fr n F a → Mem w0 L w → Q .normal a w) : R2 P w0 n ops frs A tab L0 .nil F L Q := h
theorem R2_free (k d : Nat) (ho : ops[k]? = some o) (hf : frs.getD k false = true) (hg : G F ops o g) (hd : o.dst = some d) (hdn : Nat.blt d n = true) (v : Value) (hs : SubL L (selL L0 (idsOf tab k))) (hz : Z P w0 F (selL L0 (idsOf tab k)) g o v)
    (hK : R2 P w0 n ops frs A tab L0 r ((d, g, v) :: F) L Q) : R2 P w0 n ops frs A tab L0 (.one k r) F L Q := fun a w hF hM => by
  have hw := hg n a hF
  have hput := hF.put g v hdn
  have key := hK _ w hput hM
  cases g with
  | true => exact ⟨o, ho, .inl ⟨hf, v, .inl ⟨hw, fun w' hw' => hz n a hF rfl w' hw'⟩, hM.sub hs, by rw [hd]; exact key⟩⟩
  | false => exact ⟨o, ho, .inl ⟨hf, undef, .inr ⟨hw, rfl⟩, hM.sub hs, by rw [hd]; exact key⟩⟩
theorem R2f_ (k d : Nat) (ho : ops[k]? = some o) (hf : frs.getD k false = true) (hg : o.guard = none) (hd : o.dst = some d) (hdn : Nat.blt d n = true) (v : Value) (hs : SubL L (selL L0 (idsOf tab k))) (hz : Z P w0 F (selL L0 (idsOf tab k)) true o v)
    (hK : R2 P w0 n ops frs A tab L0 r ((d, true, v) :: F) L Q) : R2 P w0 n ops frs A tab L0 (.one k r) F L Q := R2_free k d ho hf (G_no hg) hd hdn v hs hz hK
theorem R2_op (k : Nat) (ho : ops[k]? = some o) (hS : S P w0 n ops [o] F L (PK2 P w0 ops frs A tab L0 k r Q)) (a : Act) (w : World) (hF : Fr n F a) (hM : Mem w0 L w) :
    wpOp P ops (QN Q) k (fun a' w' => (∀ i, conc frs A k i = true → Mem w0 (selL L0 (idsOf tab i)) w') ∧ permK2 P ops frs (conc frs A) (fun i => Mem w0 (selL L0 (idsOf tab i))) (QN Q) r a' w') a w := by
  have h := hS a w hF hM
  have hne : ∀ e a w, e ≠ .normal → ¬ PK2 P w0 ops frs A tab L0 k r Q e a w := fun e a w he h => by cases e <;> first | exact he rfl | exact h
  unfold wpList at h
  unfold wpOp
  rw [ho]
  simp only
  split
  · rename_i hw
    rw [if_pos hw] at h
    rcases h with h | ⟨_, a', w', h⟩
    · exact .inl (upon_qn hne _ h)
    · exact absurd h (hne _ _ _ (by simp))
  · rename_i hw
    rw [if_neg hw] at h
    exact h
theorem R2_chain (k : Nat) (ho : ops[k]? = some o) (hf : frs.getD k false = false) (hS : S P w0 n ops [o] F L (PK2 P w0 ops frs A tab L0 k r Q)) : R2 P w0 n ops frs A tab L0 (.one k r) F L Q := fun a w hF hM =>
  ⟨o, ho, .inr ⟨hf, R2_op k ho hS a w hF hM⟩⟩
theorem R2_two {k1 k2 : Nat} {t1 t2 : PTree} {o1 o2 : Oper} (ho1 : ops[k1]? = some o1) (ho2 : ops[k2]? = some o2) (h1 : S P w0 n ops [o1] F L (PK2 P w0 ops frs A tab L0 k1 t1 Q)) (h2 : S P w0 n ops [o2] F L (PK2 P w0 ops frs A tab L0 k2 t2 Q)) :
    R2 P w0 n ops frs A tab L0 (.two k1 t1 k2 t2) F L Q := fun a w hF hM => ⟨R2_op k1 ho1 h1 a w hF hM, R2_op k2 ho2 h2 a w hF hM⟩
theorem R2_next {k : Nat} (hfit : Fits frs A k L0 L tab) (h : R2 P w0 n ops frs A tab L0 r F L Q) : S P w0 n ops [] F L (PK2 P w0 ops frs A tab L0 k r Q) := fun a w hF hM =>
  ⟨fun i hc => hM.sub (hfit.spec hc), h a w hF hM⟩
theorem T_tree {id : Nat} {l : List Oper} (perm : PTree) (frs : List Bool) (A : List Nat) (tab : List (Nat × List Nat)) (hm : P.follows .mixedOrders = true) (hsel : Region.noSelect l.toArray = true) (hA : masks l [] = A) (hlen : perm.len = l.length) (hB : permB2 l.toArray frs perm (Array.replicate l.length false) = true)
    (h : R2 P w0 n l.toArray frs A tab L perm F L Q) : T P w0 n (.region id l.toArray true) F L Q := fun a w hF hM => region_perm2 hm hsel hA hlen hB (h a w.drew hF hM.drew)
/-- what is known behind a region -/
def QC (w0 : World) (n : Nat) (F : FL) (L : HL) : Exit → Act → World → Prop
  | .normal, a, w => Fr n F a ∧ Mem w0 L w
  | _, _, _ => False
theorem T_cut {c : Code} (F' : FL) (L' : HL) (h1 : T P w0 n c F L (QC w0 n F' L')) (h2 : S P w0 n #[] [] F' L' Q) : T P w0 n c F L Q := fun a w hF hM =>
  wp_mono (h1 a w hF hM) fun e a w hq => by cases e <;> first | exact h2 a w hq.1 hq.2 | exact hq.elim
end
end Go.Eng
