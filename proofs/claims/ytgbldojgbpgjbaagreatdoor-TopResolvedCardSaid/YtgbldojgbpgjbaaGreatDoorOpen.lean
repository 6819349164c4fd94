/- Arguments opened: what a reading of a value says of its cells, of its parts, of their sizes. No condition. -/
import Derived.Test.YtgbldojgbpgjbaaGreatDoorMore
import Derived.ChangeArms
import Derived.DataReads
import Derived.ChangeOld
import Derived.SizedLaws
namespace Go.Eng
set_option linter.unusedSimpArgs false
set_option linter.unusedVariables false
set_option linter.unusedSectionVars false
open Go.RowKit Go.ChangeShapes Go.WideShapes
section
variable {H : Type} {enc : TypeId × Value → H} {P : Program} {w : World}
/-- a value's cells are read, and no part of it is too long for a machine -/
def Pr (enc : TypeId × Value → H) (P : Program) (w : World) (t : TypeId) (cs : List Value) (d : DataW H) : Prop :=
  (∃ n ps, DataW.trod enc P w 0 (fun _ => true) true n t cs = some (d, ps)) ∧ ∀ n ∈ d.weights P t, n ≤ reachBytes
structure Opn (enc : TypeId × Value → H) (P : Program) (w : World) (t : TypeId) {X : Type} (e : X → List Value) (G : X → Prop) (R : X → DataW H → Prop) : Prop where
  op : ∀ cs d, Pr enc P w t cs d → ∃ a, cs = e a ∧ G a ∧ R a d
theorem Opn.map {t : TypeId} {X Y : Type} {e : X → List Value} {G : X → Prop} {R : X → DataW H → Prop} {e' : Y → List Value} {G' : Y → Prop} {R' : Y → DataW H → Prop} (h : Opn enc P w t e G R) (f : X → Y)
    (he : ∀ a, e a = e' (f a)) (hG : ∀ a, G a → G' (f a)) (hR : ∀ a d, R a d → R' (f a) d) : Opn enc P w t e' G' R' := ⟨fun cs d hp => by
  obtain ⟨a, h1, h2, h3⟩ := h.op cs d hp
  exact ⟨f a, h1.trans (he a), hG a h2, hR a d h3⟩⟩
theorem opn_str {t : TypeId} (ht : P.underlying t = some .string) : Opn enc P w t (fun l : List UInt8 => [str l]) (fun l => l.length ≤ reachBytes) (fun l d => d = .lit (.string l)) := ⟨fun cs d ⟨⟨n, ps, h⟩, hw⟩ => by
  cases n with
  | zero => simp [DataW.trod] at h
  | succ n =>
    unfold DataW.trod at h
    rw [ht] at h
    split at h <;> simp_all
    obtain ⟨_, rfl, _⟩ := h
    exact ⟨_, by simp [str], by simpa [DataW.weights] using hw, rfl⟩⟩
theorem opn_int {t : TypeId} {k : IntKind} (ht : P.underlying t = some (.int k)) : Opn enc P w t (fun n : Int => [.int k n]) (fun n => (Lit.int k n).wf = true) (fun n d => d = .lit (.int k n)) := ⟨fun cs d ⟨⟨n, ps, h⟩, hw⟩ => by
  cases n with
  | zero => simp [DataW.trod] at h
  | succ n =>
    unfold DataW.trod at h
    rw [ht] at h
    split at h <;> simp_all⟩
theorem opn_bool {t : TypeId} (ht : P.underlying t = some .bool) : Opn enc P w t (fun b : Bool => [.bool b]) (fun _ => True) (fun b d => d = .lit (.bool b)) := ⟨fun cs d ⟨⟨n, ps, h⟩, hw⟩ => by
  cases n with
  | zero => simp [DataW.trod] at h
  | succ n =>
    unfold DataW.trod at h
    rw [ht] at h
    split at h <;> simp_all⟩

/-! ### Structs -/
def FieldsR (Q : TypeId → List Value → DataW H → Prop) (P : Program) (cs : List Value) : List Field → List (DataW H) → Prop
  | [], [] => True
  | f :: fs, d :: ds => Q f.type ((cs.drop f.offset).take (P.cellsOf f.type)) d ∧ FieldsR Q P cs fs ds
  | _, _ => False
theorem fields_aux {n : Nat} {cs : List Value} : ∀ (fs : List Field) (xs : List (DataW H × List MemPlace)), xs.length = fs.length →
    (∀ (i : Nat) (f : Field), fs[i]? = some f → DataW.trod enc P w 0 (fun _ => true) true n f.type ((cs.drop f.offset).take (P.cellsOf f.type)) = xs[i]?) →
    (∀ k ∈ DataW.weightsEach P (fs.map (·.type)) (xs.map (·.1)), k ≤ reachBytes) → FieldsR (Pr enc P w) P cs fs (xs.map (·.1))
  | [], [], _, _, _ => trivial
  | f :: fs, x :: xs, hl, h, hw => by
    simp only [List.map_cons, DataW.weightsEach, List.mem_append] at hw
    refine ⟨⟨⟨n, x.2, by simpa using h 0 f rfl⟩, fun k hk => hw k (.inl hk)⟩, fields_aux fs xs (by simpa using hl) (fun i f' hf => by simpa using h (i + 1) f' (by simpa using hf)) fun k hk => hw k (.inr hk)⟩
  | [], _ :: _, hl, _, _ => by simp at hl
  | _ :: _, [], hl, _, _ => by simp at hl
theorem open_fields {t : TypeId} {fs : Array Field} {cs : List Value} {d : DataW H} (ht : P.underlying t = some (.struct fs)) (h : Pr enc P w t cs d) :
    cs.length = P.cellsOf t ∧ ∃ ds, d = .agg ds ∧ FieldsR (Pr enc P w) P cs fs.toList ds := by
  obtain ⟨⟨n, ps, h⟩, hw⟩ := h
  obtain ⟨xs, m, _, hx, hl, hlen, hf⟩ := DataW.trod_struct ht h
  have hd : d = .agg (xs.map (·.1)) := congrArg Prod.fst hx
  subst hd
  refine ⟨hl, _, rfl, fields_aux fs.toList xs (by simpa using hlen) (fun i f hi => hf i f (by simpa using hi)) fun k hk => hw k ?_⟩
  simpa [DataW.weights, ht] using hk
structure OpF (enc : TypeId × Value → H) (P : Program) (w : World) (fs : List Field) (off fin : Nat) {X : Type} (e : X → List Value) (G : X → Prop) (R : X → List (DataW H) → Prop) : Prop where
  op : ∀ cs ds, FieldsR (Pr enc P w) P cs fs ds → ∃ a, cs.drop off = e a ++ cs.drop fin ∧ G a ∧ R a ds
theorem opf_nil {off : Nat} : OpF enc P w [] off off (fun _ : Unit => []) (fun _ => True) (fun _ ds => ds = []) := ⟨fun cs ds h => by
  cases ds with
  | nil => exact ⟨(), rfl, trivial, rfl⟩
  | cons a r => exact h.elim⟩
theorem opf_cons {f : Field} {fs : List Field} {off fin n : Nat} {X Y : Type} {e : X → List Value} {G : X → Prop} {R : X → DataW H → Prop} {e' : Y → List Value} {G' : Y → Prop} {R' : Y → List (DataW H) → Prop}
    (h : Opn enc P w f.type e G R) (ho : f.offset = off) (hn : P.cellsOf f.type = n) (h' : OpF enc P w fs (off + n) fin e' G' R') :
    OpF enc P w (f :: fs) off fin (fun p : X × Y => e p.1 ++ e' p.2) (fun p => G p.1 ∧ G' p.2) (fun p ds => ∃ d r, ds = d :: r ∧ R p.1 d ∧ R' p.2 r) := ⟨fun cs ds hf => by
  cases ds with
  | nil => exact hf.elim
  | cons d r =>
    obtain ⟨h1, h2⟩ := hf
    obtain ⟨a, ha, hG, hR⟩ := h.op _ _ h1
    obtain ⟨b, hb, hG', hR'⟩ := h'.op cs r h2
    refine ⟨(a, b), ?_, ⟨hG, hG'⟩, d, r, rfl, hR, hR'⟩
    rw [ho, hn] at ha
    show cs.drop off = (e a ++ e' b) ++ cs.drop fin
    rw [List.append_assoc, ← hb, ← ha, ← List.drop_drop, List.take_append_drop]⟩
theorem opn_struct {t : TypeId} {fs : Array Field} {n : Nat} {X : Type} {e : X → List Value} {G : X → Prop} {R : X → List (DataW H) → Prop} (ht : P.underlying t = some (.struct fs)) (hn : P.cellsOf t = n)
    (h : OpF enc P w fs.toList 0 n e G R) : Opn enc P w t e G (fun a d => ∃ ds, d = .agg ds ∧ R a ds) := ⟨fun cs d hp => by
  obtain ⟨hl, ds, rfl, hf⟩ := open_fields ht hp
  obtain ⟨a, ha, hG, hR⟩ := h.op cs ds hf
  refine ⟨a, ?_, hG, ds, rfl, hR⟩
  rw [List.drop_zero, List.drop_eq_nil_of_le (by omega), List.append_nil] at ha
  exact ha⟩

/-! ### Slices -/
theorem weights_all {e : TypeId} : ∀ (ds : List (DataW H)) (i : Nat) (d : DataW H), ds[i]? = some d → ∀ k ∈ d.weights P e, k ∈ DataW.weightsAll P e ds
  | [], _, _, h, _, _ => by simp at h
  | a :: r, 0, d, h, k, hk => by simp at h; subst h; simp [DataW.weightsAll, hk]
  | a :: r, i + 1, d, h, k, hk => by
    simp only [DataW.weightsAll, List.mem_append]
    exact .inr (weights_all r i d (by simpa using h) k hk)
theorem choose_list {X : Type} {n : Nat} {Q : Nat → X → Prop} (h : ∀ i, i < n → ∃ a, Q i a) : ∃ l : List X, l.length = n ∧ ∀ i a, l[i]? = some a → Q i a := by
  induction n with
  | zero => exact ⟨[], rfl, fun i a h => by simp at h⟩
  | succ n ih =>
    obtain ⟨l, h1, h2⟩ := ih fun i hi => h i (by omega)
    obtain ⟨a, ha⟩ := h n (by omega)
    refine ⟨l ++ [a], by simp [h1], fun i b hb => ?_⟩
    by_cases hi : i < n
    · exact h2 i b (by rwa [List.getElem?_append_left (by omega)] at hb)
    · rw [List.getElem?_append_right (by omega)] at hb
      have : i = n := by
        have := (List.getElem?_eq_some_iff.1 hb).1
        simp at this; omega
      subst this
      simp [h1] at hb; subst hb; exact ha
theorem flat_get {X : Type} {e : X → List Value} {size : Nat} (hs : ∀ a, (e a).length = size) : ∀ (l : List X) (j : Nat) (u : Value), (l.flatMap e)[j]? = some u → ∃ i k a, j = i * size + k ∧ k < size ∧ l[i]? = some a ∧ (e a)[k]? = some u
  | [], j, u, h => by simp at h
  | a :: r, j, u, h => by
    rw [List.flatMap_cons] at h
    by_cases hj : j < size
    · rw [List.getElem?_append_left (by rw [hs]; exact hj)] at h
      exact ⟨0, j, a, by omega, hj, rfl, h⟩
    · rw [List.getElem?_append_right (by rw [hs]; omega), hs] at h
      obtain ⟨i, k, b, h1, h2, h3, h4⟩ := flat_get hs r _ u h
      exact ⟨i + 1, k, b, by rw [Nat.succ_mul]; omega, h2, by simpa using h3, h4⟩
theorem flat_len {X : Type} {e : X → List Value} {size : Nat} (hs : ∀ a, (e a).length = size) : ∀ (l : List X), (l.flatMap e).length = l.length * size
  | [] => by simp
  | a :: r => by rw [List.flatMap_cons, List.length_append, hs, flat_len hs r, List.length_cons, Nat.succ_mul]; omega
/-- what is read of a slice: the elements, and whatever lies behind them -/
def SlRel {X : Type} (R : X → DataW H → Prop) (s : Sl X) (d : DataW H) : Prop :=
  ∃ es : List (DataW H), ((d = .nil ∧ es = []) ∨ ∃ sp, d = .slice es sp) ∧ es.length = s.l.length ∧ ∀ (i : Nat) (a : X) (x : DataW H), s.l[i]? = some a → es[i]? = some x → R a x
theorem opn_slice {t et : TypeId} {size : Nat} {X : Type} {e : X → List Value} {G : X → Prop} {R : X → DataW H → Prop} (ht : P.underlying t = some (.slice et)) (hc : P.cellsOf et = size) (h0 : 0 < size) (hb : 0 < P.bytesOf et) (hs : ∀ a, (e a).length = size)
    (h : Opn enc P w et e G R) : Opn enc P w t (fun s : Sl X => [.slice s.A s.q s.c]) (fun s => s.Ok e size w ∧ s.q ≤ reachBytes ∧ ∀ a ∈ s.l, G a) (SlRel R) := ⟨fun cs d ⟨⟨n, ps, hp⟩, hw⟩ => by
  rcases DataW.trod_slice ht hp with ⟨rfl, hx⟩ | ⟨a, len, cap, elems, rest, m, _, rfl, hx, _, hl, hm, hlen, hel, _, _⟩
  · obtain ⟨rfl, rfl⟩ := Prod.mk.inj hx
    exact ⟨⟨none, 0, 0, []⟩, rfl, ⟨⟨⟨⟨by simp, fun h => by simp at h⟩, rfl⟩, Nat.le_refl _⟩, by simp, fun a ha => by simp at ha⟩, [], .inl ⟨rfl, rfl⟩, rfl, fun i a x hi => by simp at hi⟩
  · have hd : d = .slice (elems.map (·.1)) (rest.map (·.1)) := congrArg Prod.fst hx
    subst hd
    simp only [DataW.weights, ht, List.mem_cons, List.mem_append, List.length_map] at hw
    have hcell : ∀ i, i < len → ∃ b : X, w.cells? 0 (a.add (i * size)) size = some (e b) ∧ G b ∧ ∀ x, (elems.map (·.1))[i]? = some x → R b x := fun i hi => by
      have h1 := hel i hi
      rw [hc] at h1
      rw [List.getElem?_eq_getElem (by omega)] at h1
      obtain ⟨cs', h2, h3⟩ := Option.bind_eq_some_iff.1 h1
      obtain ⟨b, h4, h5, h6⟩ := h.op cs' (elems[i]).1 ⟨⟨m, (elems[i]).2, h3⟩, fun k hk => hw k (.inr (.inl (weights_all _ i _ (by simp [hlen, hi]) k hk)))⟩
      refine ⟨b, by rw [h2, h4], h5, fun x hx' => ?_⟩
      rw [List.getElem?_map, List.getElem?_eq_getElem (by omega)] at hx'
      simp only [Option.map_some, Option.some.injEq] at hx'
      rw [← hx']; exact h6
    obtain ⟨l, hl1, hl2⟩ := choose_list hcell
    refine ⟨⟨some a, len, cap, l⟩, rfl, ⟨⟨⟨⟨by rw [flat_len hs, hl1], fun hq => ⟨a, rfl, ?_, fun j u hu => ?_⟩⟩, hl1⟩, hl⟩, ?_, fun b hb' => ?_⟩, elems.map (·.1), .inr ⟨_, rfl⟩, by simp [hl1, hlen], fun i b x hi hx' => (hl2 i b hi).2.2 x hx'⟩
    · obtain ⟨b, hb1⟩ := hcell 0 hq
      have := World.cells?_block hb1.1 h0
      rwa [block_of_add] at this
    · obtain ⟨i, k, b, rfl, hk, hb1, hb2⟩ := flat_get hs l j u hu
      obtain ⟨_, _, h3⟩ := World.cells?_some (hl2 i b hb1).1
      have := h3 k hk
      rw [add_of_add, hb2] at this
      exact this
    · have := hw _ (.inl rfl)
      have h1 : len ≤ (elems.length + rest.length) * P.bytesOf et := Nat.le_trans (show len ≤ elems.length + rest.length by omega) (Nat.le_mul_of_pos_right _ hb)
      show len ≤ reachBytes
      omega
    · obtain ⟨i, hi, rfl⟩ := List.getElem_of_mem hb'
      exact (hl2 i l[i] (by simp [hi])).2.1⟩
theorem val_agg {r : Reach} {b : Nat} {t : TypeId} {fs : Array Field} {v : Value} {l : List Value} (ht : P.underlying t = some (.struct fs)) (hv : Value.okWide P w r b t v) (hc : v.cells.toList = l) : v = .agg l.toArray := by
  simp only [Value.okWide, ht] at hv
  obtain ⟨cs, rfl, _⟩ := hv
  subst hc; rfl
theorem val_one {r : Reach} {b : Nat} {t : TypeId} {d : TypeDesc} {v x : Value} (ht : P.underlying t = some d) (hd : isAggB d = false) (hv : Value.okWide P w r b t v) (hc : v.cells.toList = [x]) : v = x := by
  cases v with
  | agg cs =>
    cases d <;> simp_all [Value.okWide, Cell.okWide, Cell.ok, isAggB]
  | _ => simpa [Value.cells] using hc
theorem pr_of {t : TypeId} {v : Value} {d : DataW H} {ps : List MemPlace} {ts : List TypeId} {ds : List (DataW H)} {j : Nat} (h : DataW.Trod enc P w 0 (fun _ => true) true t v d ps) (hw : (DataW.weightsEach P ts ds).all (· ≤ reachBytes) = true)
    (ht : ts[j]? = some t) (hd : ds[j]? = some d) : Pr enc P w t v.cells.toList d := by
  obtain ⟨n, hn⟩ := h
  exact ⟨⟨n, ps, hn⟩, fun k hk => by simpa using List.all_eq_true.1 hw k (DataW.weights_mem_each ht hd k hk)⟩
end
end Go.Eng
