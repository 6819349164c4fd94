/- Slices among the arguments, opened with the weight of their elements. No condition. -/
import Derived.Test.YtfmbgaaonfgenaaGreatDoorOpen
namespace Go.Eng
set_option linter.unusedSimpArgs false
set_option linter.unusedVariables false
set_option linter.unusedSectionVars false
open Go.RowKit Go.ChangeShapes Go.WideShapes

section
variable {H : Type} {enc : TypeId × Value → H} {P : Program} {w : World}
theorem opn_sliceB {t et : TypeId} {size : Nat} {X : Type} {e : X → List Value} {G : X → Prop} {R : X → DataW H → Prop} (ht : P.underlying t = some (.slice et)) (hc : P.cellsOf et = size) (h0 : 0 < size) (hb : 0 < P.bytesOf et) (hs : ∀ a, (e a).length = size)
    (h : Opn enc P w et e G R) : Opn enc P w t (fun s : Sl X => [.slice s.A s.q s.c]) (fun s => s.Ok e size w ∧ s.q ≤ reachBytes ∧ s.q * P.bytesOf et ≤ reachBytes ∧ ∀ a ∈ s.l, G a) (SlRel R) := ⟨fun cs d ⟨⟨n, ps, hp⟩, hw⟩ => by
  rcases DataW.trod_slice ht hp with ⟨rfl, hx⟩ | ⟨a, len, cap, elems, rest, m, _, rfl, hx, _, hl, hm, hlen, hel, _, _⟩
  · obtain ⟨rfl, rfl⟩ := Prod.mk.inj hx
    exact ⟨⟨none, 0, 0, []⟩, rfl, ⟨⟨⟨⟨by simp, fun h => by simp at h⟩, rfl⟩, Nat.le_refl _⟩, by simp, by simp, fun a ha => by simp at ha⟩, [], .inl ⟨rfl, rfl⟩, rfl, fun i a x hi => by simp at hi⟩
  · have hd : d = .slice (elems.map (·.1)) (rest.map (·.1)) := congrArg Prod.fst hx
    subst hd
    simp only [DataW.weights, ht, List.mem_cons, List.mem_append, List.length_map] at hw
    have hcell : ∀ i, i < len → ∃ b : X, w.cells? 0 (a.add (i * size)) size = some (e b) ∧ G b ∧ ∀ x, (elems.map (·.1))[i]? = some x → R b x := fun i hi => by
      have h1 := hel i hi
      rw [hc] at h1
      rw [List.getElem?_eq_getElem (by omega)] at h1
      obtain ⟨cs', h2, h3⟩ := Option.bind_eq_some_iff.1 h1
      obtain ⟨b, h4, h5, h6⟩ := h.op cs' (elems[i]).1 ⟨⟨m, (elems[i]).2, h3⟩, fun k hk => hw k (.inr (.inl (weights_all _ i _ (by simp [hlen, hi]) k hk)))⟩
      refine ⟨b, by rw [h2, h4], h5, fun x hx' => ?_⟩
      rw [List.getElem?_map, List.getElem?_eq_getElem (by omega)] at hx'
      simp only [Option.map_some, Option.some.injEq] at hx'
      rw [← hx']; exact h6
    obtain ⟨l, hl1, hl2⟩ := choose_list hcell
    refine ⟨⟨some a, len, cap, l⟩, rfl, ⟨⟨⟨⟨by rw [flat_len hs, hl1], fun hq => ⟨a, rfl, ?_, fun j u hu => ?_⟩⟩, hl1⟩, hl⟩, ?_, ?_, fun b hb' => ?_⟩, elems.map (·.1), .inr ⟨_, rfl⟩, by simp [hl1, hlen], fun i b x hi hx' => (hl2 i b hi).2.2 x hx'⟩
    · obtain ⟨b, hb1⟩ := hcell 0 hq
      have := World.cells?_block hb1.1 h0
      rwa [block_of_add] at this
    · obtain ⟨i, k, b, rfl, hk, hb1, hb2⟩ := flat_get hs l j u hu
      obtain ⟨_, _, h3⟩ := World.cells?_some (hl2 i b hb1).1
      have := h3 k hk
      rw [add_of_add, hb2] at this
      exact this
    · have := hw _ (.inl rfl)
      have h1 : len ≤ (elems.length + rest.length) * P.bytesOf et := Nat.le_trans (show len ≤ elems.length + rest.length by omega) (Nat.le_mul_of_pos_right _ hb)
      show len ≤ reachBytes
      omega
    · have := hw _ (.inl rfl)
      exact Nat.le_trans (Nat.mul_le_mul_right _ (show len ≤ elems.length + rest.length by omega)) this
    · obtain ⟨i, hi, rfl⟩ := List.getElem_of_mem hb'
      exact (hl2 i l[i] (by simp [hi])).2.1⟩
end
end Go.Eng
