/- Arguments of a type that holds itself: opened by how deep the reading goes. No condition. -/
import Derived.Test.YtfcedlfeinnhoaaGreatDoorOpen
namespace Go.Eng
set_option linter.unusedSimpArgs false
set_option linter.unusedVariables false
set_option linter.unusedSectionVars false
open Go.RowKit Go.ChangeShapes Go.WideShapes
section
variable {H : Type} {enc : TypeId × Value → H} {P : Program} {w : World}
def PrN (N : Nat) (enc : TypeId × Value → H) (P : Program) (w : World) (t : TypeId) (cs : List Value) (d : DataW H) : Prop :=
  (∃ n ps, n ≤ N ∧ DataW.trod enc P w 0 (fun _ => true) true n t cs = some (d, ps)) ∧ ∀ n ∈ d.weights P t, n ≤ reachBytes
theorem PrN.pr {N : Nat} {t : TypeId} {cs : List Value} {d : DataW H} (h : PrN N enc P w t cs d) : Pr enc P w t cs d := by
  obtain ⟨⟨n, ps, _, h⟩, hw⟩ := h
  exact ⟨⟨n, ps, h⟩, hw⟩
theorem Pr.prN {t : TypeId} {cs : List Value} {d : DataW H} (h : Pr enc P w t cs d) : ∃ N, PrN N enc P w t cs d := by
  obtain ⟨⟨n, ps, h⟩, hw⟩ := h
  exact ⟨n, ⟨n, ps, Nat.le_refl _, h⟩, hw⟩
structure OpnN (N : Nat) (enc : TypeId × Value → H) (P : Program) (w : World) (t : TypeId) {X : Type} (e : X → List Value) (G : X → Prop) (R : X → DataW H → Prop) : Prop where
  op : ∀ cs d, PrN N enc P w t cs d → ∃ a, cs = e a ∧ G a ∧ R a d
theorem Opn.n {N : Nat} {t : TypeId} {X : Type} {e : X → List Value} {G : X → Prop} {R : X → DataW H → Prop} (h : Opn enc P w t e G R) : OpnN N enc P w t e G R := ⟨fun cs d hp => h.op cs d hp.pr⟩
theorem OpnN.all {t : TypeId} {X : Type} {e : X → List Value} {G : X → Prop} {R : X → DataW H → Prop} (h : ∀ N, OpnN N enc P w t e G R) : Opn enc P w t e G R := ⟨fun cs d hp => by
  obtain ⟨N, hN⟩ := hp.prN
  exact (h N).op cs d hN⟩
theorem OpnN.zero {t : TypeId} {X : Type} {e : X → List Value} {G : X → Prop} {R : X → DataW H → Prop} : OpnN 0 enc P w t e G R := ⟨fun cs d hp => by
  obtain ⟨⟨n, ps, hn, h⟩, _⟩ := hp
  obtain rfl : n = 0 := by omega
  simp [DataW.trod] at h⟩
theorem OpnN.map {N : Nat} {t : TypeId} {X Y : Type} {e : X → List Value} {G : X → Prop} {R : X → DataW H → Prop} {e' : Y → List Value} {G' : Y → Prop} {R' : Y → DataW H → Prop} (h : OpnN N enc P w t e G R) (f : X → Y)
    (he : ∀ a, e a = e' (f a)) (hG : ∀ a, G a → G' (f a)) (hR : ∀ a d, G a → R a d → R' (f a) d) : OpnN N enc P w t e' G' R' := ⟨fun cs d hp => by
  obtain ⟨a, h1, h2, h3⟩ := h.op cs d hp
  exact ⟨f a, h1.trans (he a), hG a h2, hR a d h2 h3⟩⟩
theorem fields_auxN {N n : Nat} {cs : List Value} (hn : n ≤ N) : ∀ (fs : List Field) (xs : List (DataW H × List MemPlace)), xs.length = fs.length →
    (∀ (i : Nat) (f : Field), fs[i]? = some f → DataW.trod enc P w 0 (fun _ => true) true n f.type ((cs.drop f.offset).take (P.cellsOf f.type)) = xs[i]?) →
    (∀ k ∈ DataW.weightsEach P (fs.map (·.type)) (xs.map (·.1)), k ≤ reachBytes) → FieldsR (PrN N enc P w) P cs fs (xs.map (·.1))
  | [], [], _, _, _ => trivial
  | f :: fs, x :: xs, hl, h, hw => by
    simp only [List.map_cons, DataW.weightsEach, List.mem_append] at hw
    refine ⟨⟨⟨n, x.2, hn, by simpa using h 0 f rfl⟩, fun k hk => hw k (.inl hk)⟩, fields_auxN hn fs xs (by simpa using hl) (fun i f' hf => by simpa using h (i + 1) f' (by simpa using hf)) fun k hk => hw k (.inr hk)⟩
  | [], _ :: _, hl, _, _ => by simp at hl
  | _ :: _, [], hl, _, _ => by simp at hl
theorem open_fieldsN {N : Nat} {t : TypeId} {fs : Array Field} {cs : List Value} {d : DataW H} (ht : P.underlying t = some (.struct fs)) (h : PrN (N + 1) enc P w t cs d) :
    cs.length = P.cellsOf t ∧ ∃ ds, d = .agg ds ∧ FieldsR (PrN N enc P w) P cs fs.toList ds := by
  obtain ⟨⟨n, ps, hn, h⟩, hw⟩ := h
  obtain ⟨xs, m, hm, hx, hl, hlen, hf⟩ := DataW.trod_struct ht h
  have hd : d = .agg (xs.map (·.1)) := congrArg Prod.fst hx
  subst hd
  refine ⟨hl, _, rfl, fields_auxN (n := m) (by omega) fs.toList xs (by simpa using hlen) (fun i f hi => hf i f (by simpa using hi)) fun k hk => hw k ?_⟩
  simpa [DataW.weights, ht] using hk
structure OpFN (N : Nat) (enc : TypeId × Value → H) (P : Program) (w : World) (fs : List Field) (off fin : Nat) {X : Type} (e : X → List Value) (G : X → Prop) (R : X → List (DataW H) → Prop) : Prop where
  op : ∀ cs ds, FieldsR (PrN N enc P w) P cs fs ds → ∃ a, cs.drop off = e a ++ cs.drop fin ∧ G a ∧ R a ds
theorem opfN_nil {N off : Nat} : OpFN N enc P w [] off off (fun _ : Unit => []) (fun _ => True) (fun _ ds => ds = []) := ⟨fun cs ds h => by
  cases ds with
  | nil => exact ⟨(), rfl, trivial, rfl⟩
  | cons a r => exact h.elim⟩
theorem opfN_cons {N : Nat} {f : Field} {fs : List Field} {off fin n : Nat} {X Y : Type} {e : X → List Value} {G : X → Prop} {R : X → DataW H → Prop} {e' : Y → List Value} {G' : Y → Prop} {R' : Y → List (DataW H) → Prop}
    (h : OpnN N enc P w f.type e G R) (ho : f.offset = off) (hn : P.cellsOf f.type = n) (h' : OpFN N enc P w fs (off + n) fin e' G' R') :
    OpFN N enc P w (f :: fs) off fin (fun p : X × Y => e p.1 ++ e' p.2) (fun p => G p.1 ∧ G' p.2) (fun p ds => ∃ d r, ds = d :: r ∧ R p.1 d ∧ R' p.2 r) := ⟨fun cs ds hf => by
  cases ds with
  | nil => exact hf.elim
  | cons d r =>
    obtain ⟨h1, h2⟩ := hf
    obtain ⟨a, ha, hG, hR⟩ := h.op _ _ h1
    obtain ⟨b, hb, hG', hR'⟩ := h'.op cs r h2
    refine ⟨(a, b), ?_, ⟨hG, hG'⟩, d, r, rfl, hR, hR'⟩
    rw [ho, hn] at ha
    show cs.drop off = (e a ++ e' b) ++ cs.drop fin
    rw [List.append_assoc, ← hb, ← ha, ← List.drop_drop, List.take_append_drop]⟩
theorem opnN_struct {N : Nat} {t : TypeId} {fs : Array Field} {n : Nat} {X : Type} {e : X → List Value} {G : X → Prop} {R : X → List (DataW H) → Prop} (ht : P.underlying t = some (.struct fs)) (hn : P.cellsOf t = n)
    (h : OpFN N enc P w fs.toList 0 n e G R) : OpnN (N + 1) enc P w t e G (fun a d => ∃ ds, d = .agg ds ∧ R a ds) := ⟨fun cs d hp => by
  obtain ⟨hl, ds, rfl, hf⟩ := open_fieldsN ht hp
  obtain ⟨a, ha, hG, hR⟩ := h.op cs ds hf
  refine ⟨a, ?_, hG, ds, rfl, hR⟩
  rw [List.drop_zero, List.drop_eq_nil_of_le (by omega), List.append_nil] at ha
  exact ha⟩
theorem opnN_slice {N : Nat} {t et : TypeId} {size : Nat} {X : Type} {e : X → List Value} {G : X → Prop} {R : X → DataW H → Prop} (ht : P.underlying t = some (.slice et)) (hc : P.cellsOf et = size) (h0 : 0 < size) (hb : 0 < P.bytesOf et) (hs : ∀ a, (e a).length = size)
    (h : OpnN N enc P w et e G R) : OpnN (N + 1) enc P w t (fun s : Sl X => [.slice s.A s.q s.c]) (fun s => s.Ok e size w ∧ s.q ≤ reachBytes ∧ s.q * P.bytesOf et ≤ reachBytes ∧ ∀ a ∈ s.l, G a) (SlRel R) := ⟨fun cs d ⟨⟨n, ps, hn, hp⟩, hw⟩ => by
  rcases DataW.trod_slice ht hp with ⟨rfl, hx⟩ | ⟨a, len, cap, elems, rest, m, hnm, rfl, hx, _, hl, hm, hlen, hel, _, _⟩
  · obtain ⟨rfl, rfl⟩ := Prod.mk.inj hx
    exact ⟨⟨none, 0, 0, []⟩, rfl, ⟨⟨⟨⟨by simp, fun h => by simp at h⟩, rfl⟩, Nat.le_refl _⟩, by simp, by simp, fun a ha => by simp at ha⟩, [], .inl ⟨rfl, rfl⟩, rfl, fun i a x hi => by simp at hi⟩
  · have hd : d = .slice (elems.map (·.1)) (rest.map (·.1)) := congrArg Prod.fst hx
    subst hd
    simp only [DataW.weights, ht, List.mem_cons, List.mem_append, List.length_map] at hw
    have hcell : ∀ i, i < len → ∃ b : X, w.cells? 0 (a.add (i * size)) size = some (e b) ∧ G b ∧ ∀ x, (elems.map (·.1))[i]? = some x → R b x := fun i hi => by
      have h1 := hel i hi
      rw [hc] at h1
      rw [List.getElem?_eq_getElem (by omega)] at h1
      obtain ⟨cs', h2, h3⟩ := Option.bind_eq_some_iff.1 h1
      obtain ⟨b, h4, h5, h6⟩ := h.op cs' (elems[i]).1 ⟨⟨m, (elems[i]).2, by omega, h3⟩, fun k hk => hw k (.inr (.inl (weights_all _ i _ (by simp [hlen, hi]) k hk)))⟩
      refine ⟨b, by rw [h2, h4], h5, fun x hx' => ?_⟩
      rw [List.getElem?_map, List.getElem?_eq_getElem (by omega)] at hx'
      simp only [Option.map_some, Option.some.injEq] at hx'
      rw [← hx']; exact h6
    obtain ⟨l, hl1, hl2⟩ := choose_list hcell
    refine ⟨⟨some a, len, cap, l⟩, rfl, ⟨⟨⟨⟨by rw [flat_len hs, hl1], fun hq => ⟨a, rfl, ?_, fun j u hu => ?_⟩⟩, hl1⟩, hl⟩, ?_, ?_, fun b hb' => ?_⟩, elems.map (·.1), .inr ⟨_, rfl⟩, by simp [hl1, hlen], fun i b x hi hx' => (hl2 i b hi).2.2 x hx'⟩
    · obtain ⟨b, hb1⟩ := hcell 0 hq
      have := World.cells?_block hb1.1 h0
      rwa [block_of_add] at this
    · obtain ⟨i, k, b, rfl, hk, hb1, hb2⟩ := flat_get hs l j u hu
      obtain ⟨_, _, h3⟩ := World.cells?_some (hl2 i b hb1).1
      have := h3 k hk
      rw [add_of_add, hb2] at this
      exact this
    · have := hw _ (.inl rfl)
      have h1 : len ≤ (elems.length + rest.length) * P.bytesOf et := Nat.le_trans (show len ≤ elems.length + rest.length by omega) (Nat.le_mul_of_pos_right _ hb)
      show len ≤ reachBytes
      omega
    · have := hw _ (.inl rfl)
      exact Nat.le_trans (Nat.mul_le_mul_right _ (show len ≤ elems.length + rest.length by omega)) this
    · obtain ⟨i, hi, rfl⟩ := List.getElem_of_mem hb'
      exact (hl2 i l[i] (by simp [hi])).2.1⟩
end
end Go.Eng
