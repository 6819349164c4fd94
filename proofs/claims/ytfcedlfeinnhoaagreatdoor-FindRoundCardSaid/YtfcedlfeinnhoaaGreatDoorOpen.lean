/- Arguments opened: what a reading of a value says of its cells, of its parts, of their sizes. No condition. -/
import Derived.Test.YtfcedlfeinnhoaaGreatDoorMore
import Derived.ChangeArms
import Derived.DataReads
import Derived.ChangeOld
import Derived.SizedLaws
namespace Go.Eng
set_option linter.unusedSimpArgs false
set_option linter.unusedVariables false
set_option linter.unusedSectionVars false
open Go.RowKit Go.ChangeShapes Go.WideShapes
section
variable {H : Type} {enc : TypeId × Value → H} {P : Program} {w : World}
/-- a value's cells are read, and no part of it is too long for a machine -/
def Pr (enc : TypeId × Value → H) (P : Program) (w : World) (t : TypeId) (cs : List Value) (d : DataW H) : Prop :=
  (∃ n ps, DataW.trod enc P w 0 (fun _ => true) true n t cs = some (d, ps)) ∧ ∀ n ∈ d.weights P t, n ≤ reachBytes
structure Opn (enc : TypeId × Value → H) (P : Program) (w : World) (t : TypeId) {X : Type} (e : X → List Value) (G : X → Prop) (R : X → DataW H → Prop) : Prop where
  op : ∀ cs d, Pr enc P w t cs d → ∃ a, cs = e a ∧ G a ∧ R a d
theorem Opn.map {t : TypeId} {X Y : Type} {e : X → List Value} {G : X → Prop} {R : X → DataW H → Prop} {e' : Y → List Value} {G' : Y → Prop} {R' : Y → DataW H → Prop} (h : Opn enc P w t e G R) (f : X → Y)
    (he : ∀ a, e a = e' (f a)) (hG : ∀ a, G a → G' (f a)) (hR : ∀ a d, R a d → R' (f a) d) : Opn enc P w t e' G' R' := ⟨fun cs d hp => by
  obtain ⟨a, h1, h2, h3⟩ := h.op cs d hp
  exact ⟨f a, h1.trans (he a), hG a h2, hR a d h3⟩⟩
theorem opn_str {t : TypeId} (ht : P.underlying t = some .string) : Opn enc P w t (fun l : List UInt8 => [str l]) (fun l => l.length ≤ reachBytes) (fun l d => d = .lit (.string l)) := ⟨fun cs d ⟨⟨n, ps, h⟩, hw⟩ => by
  cases n with
  | zero => simp [DataW.trod] at h
  | succ n =>
    unfold DataW.trod at h
    rw [ht] at h
    split at h <;> simp_all
    obtain ⟨_, rfl, _⟩ := h
    exact ⟨_, by simp [str], by simpa [DataW.weights] using hw, rfl⟩⟩
theorem opn_int {t : TypeId} {k : IntKind} (ht : P.underlying t = some (.int k)) : Opn enc P w t (fun n : Int => [.int k n]) (fun n => (Lit.int k n).wf = true) (fun n d => d = .lit (.int k n)) := ⟨fun cs d ⟨⟨n, ps, h⟩, hw⟩ => by
  cases n with
  | zero => simp [DataW.trod] at h
  | succ n =>
    unfold DataW.trod at h
    rw [ht] at h
    split at h <;> simp_all⟩
/-! ### Structs -/
def FieldsR (Q : TypeId → List Value → DataW H → Prop) (P : Program) (cs : List Value) : List Field → List (DataW H) → Prop
  | [], [] => True
  | f :: fs, d :: ds => Q f.type ((cs.drop f.offset).take (P.cellsOf f.type)) d ∧ FieldsR Q P cs fs ds
  | _, _ => False
/-! ### Slices -/
theorem weights_all {e : TypeId} : ∀ (ds : List (DataW H)) (i : Nat) (d : DataW H), ds[i]? = some d → ∀ k ∈ d.weights P e, k ∈ DataW.weightsAll P e ds
  | [], _, _, h, _, _ => by simp at h
  | a :: r, 0, d, h, k, hk => by simp at h; subst h; simp [DataW.weightsAll, hk]
  | a :: r, i + 1, d, h, k, hk => by
    simp only [DataW.weightsAll, List.mem_append]
    exact .inr (weights_all r i d (by simpa using h) k hk)
theorem choose_list {X : Type} {n : Nat} {Q : Nat → X → Prop} (h : ∀ i, i < n → ∃ a, Q i a) : ∃ l : List X, l.length = n ∧ ∀ i a, l[i]? = some a → Q i a := by
  induction n with
  | zero => exact ⟨[], rfl, fun i a h => by simp at h⟩
  | succ n ih =>
    obtain ⟨l, h1, h2⟩ := ih fun i hi => h i (by omega)
    obtain ⟨a, ha⟩ := h n (by omega)
    refine ⟨l ++ [a], by simp [h1], fun i b hb => ?_⟩
    by_cases hi : i < n
    · exact h2 i b (by rwa [List.getElem?_append_left (by omega)] at hb)
    · rw [List.getElem?_append_right (by omega)] at hb
      have : i = n := by
        have := (List.getElem?_eq_some_iff.1 hb).1
        simp at this; omega
      subst this
      simp [h1] at hb; subst hb; exact ha
theorem flat_get {X : Type} {e : X → List Value} {size : Nat} (hs : ∀ a, (e a).length = size) : ∀ (l : List X) (j : Nat) (u : Value), (l.flatMap e)[j]? = some u → ∃ i k a, j = i * size + k ∧ k < size ∧ l[i]? = some a ∧ (e a)[k]? = some u
  | [], j, u, h => by simp at h
  | a :: r, j, u, h => by
    rw [List.flatMap_cons] at h
    by_cases hj : j < size
    · rw [List.getElem?_append_left (by rw [hs]; exact hj)] at h
      exact ⟨0, j, a, by omega, hj, rfl, h⟩
    · rw [List.getElem?_append_right (by rw [hs]; omega), hs] at h
      obtain ⟨i, k, b, h1, h2, h3, h4⟩ := flat_get hs r _ u h
      exact ⟨i + 1, k, b, by rw [Nat.succ_mul]; omega, h2, by simpa using h3, h4⟩
theorem flat_len {X : Type} {e : X → List Value} {size : Nat} (hs : ∀ a, (e a).length = size) : ∀ (l : List X), (l.flatMap e).length = l.length * size
  | [] => by simp
  | a :: r => by rw [List.flatMap_cons, List.length_append, hs, flat_len hs r, List.length_cons, Nat.succ_mul]; omega
/-- what is read of a slice: the elements, and whatever lies behind them -/
def SlRel {X : Type} (R : X → DataW H → Prop) (s : Sl X) (d : DataW H) : Prop :=
  ∃ es : List (DataW H), ((d = .nil ∧ es = []) ∨ ∃ sp, d = .slice es sp) ∧ es.length = s.l.length ∧ ∀ (i : Nat) (a : X) (x : DataW H), s.l[i]? = some a → es[i]? = some x → R a x
theorem val_agg {r : Reach} {b : Nat} {t : TypeId} {fs : Array Field} {v : Value} {l : List Value} (ht : P.underlying t = some (.struct fs)) (hv : Value.okWide P w r b t v) (hc : v.cells.toList = l) : v = .agg l.toArray := by
  simp only [Value.okWide, ht] at hv
  obtain ⟨cs, rfl, _⟩ := hv
  subst hc; rfl
theorem pr_of {t : TypeId} {v : Value} {d : DataW H} {ps : List MemPlace} {ts : List TypeId} {ds : List (DataW H)} {j : Nat} (h : DataW.Trod enc P w 0 (fun _ => true) true t v d ps) (hw : (DataW.weightsEach P ts ds).all (· ≤ reachBytes) = true)
    (ht : ts[j]? = some t) (hd : ds[j]? = some d) : Pr enc P w t v.cells.toList d := by
  obtain ⟨n, hn⟩ := h
  exact ⟨⟨n, ps, hn⟩, fun k hk => by simpa using List.all_eq_true.1 hw k (DataW.weights_mem_each ht hd k hk)⟩
end
end Go.Eng
