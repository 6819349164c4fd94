/- slices.SortFunc at elements of one cell, in the engine's words: an owned row is handed back sorted, under a compare function of which a contract with Below is known. Conditions: those of each theorem. -/
import Derived.Test.YtekbcbjimajnfaaGreatDoorSort
import Derived.Shelf.SlSortCmp.Whole1
namespace Go.Eng
open Go.RowKit Go.Shelf Go.Lib Go.Sort Go.Proofs
set_option linter.unusedSimpArgs false
set_option linter.unusedVariables false
section
variable {α : Type} [Inhabited α] {enc : α → Value}
end
section
variable {P : Program} {ρ : Ren} {α : Type} [Inhabited α] {enc : α → Value} {e1 : α → List Value}
end
section
variable {P : Program} {ρ : Ren} {α : Type} [Inhabited α] {enc : α → List Value} {k : Nat}
/-- an owned row is sorted: the compare function may read what the sort does not turn -/
theorem sort_ownX (L : SlLaysF0.n6 P ρ) (aE : ∀ w, (isAgg (ρ.t 24)).run P w = .ok true w) (zE : ∀ w, (Go.sizeOf (ρ.t 24)).run P w = .ok k w) (hk : ∀ x, (enc x).length = k) (h1 : ∀ x, ∀ v ∈ enc x, v.oneCell' = true)
    (cf : α → α → Int) (hO : SWO (ltOf cf)) (g : Nat) (cb : Array Value) (eg : ∀ args w, (callFunc g args).run P w = .ok (.enter g args) w) {w0 : World} {K : HL} (T : TypeId) (A : Option Addr) (q c : Nat) (l : List α) (w : World) (hlen : l.length = q) (hq : q < 4611686018427387904)
    (hcmp : ∀ w', w.grownBy w' (Value.slice A q c).ownBlock → ∀ x y, Calls P g (#[.agg (enc x).toArray, .agg (enc y).toArray] ++ cb) w' fun e w'' => e = .returned (.int .i64 (cf x y)) ∧ RowKit.Below w'.heap.size w' w'')
    (hM : Mem w0 ([(0, .own T k (.slice A q c) q (l.flatMap enc))] ++ K) w) :
    Calls P (ρ.f 6) #[.slice A q c, .func (.func g) #[] cb] w fun e w' => ∃ l' : List α, e = .returned (.tuple #[]) ∧ l' = pdqL cf l ∧ Mem w0 ([(0, .own T k (.slice A q c) q (l'.flatMap enc))] ++ K) w' := by
  have h0 := hM.sat 0 _ rfl
  obtain ⟨hx, hv⟩ := h0
  rcases hv with ⟨hv, hn⟩ | ⟨b, cap, cur, hv, hb, hg, hc1, hc2, hc3, hc4⟩
  · simp only [Value.slice.injEq] at hv
    obtain ⟨rfl, rfl, rfl⟩ := hv
    have hl0 : l = [] := List.eq_nil_of_length_eq_zero hlen
    subst hl0
    refine (AnyF.slices_SortFunc_none L none 0 _ w).mono ?_
    rintro e w' ⟨rfl, rfl⟩
    have hp : pdqL cf ([] : List α) = [] := List.eq_nil_of_length_eq_zero (pdqL_len hO [])
    exact ⟨[], rfl, hp.symm, hM⟩
  · simp only [Value.slice.injEq] at hv
    obtain ⟨rfl, _, rfl⟩ := hv
    subst hlen
    have hlt : b < w.heap.size := (Array.getElem?_eq_some_iff.1 hg).1
    have hH : HoldsK enc k w b 0 l.toArray := holds_own hk hg hc4
    have hC : CmpLays P g cb enc k cf b 0 l.toArray.size w := by
      intro m os dk hdk x y
      exact Go.Drn.calls_grow (hcmp _ (sorted_grown hlt) x y)
    have hle : l.length * k ≤ c * k := Nat.mul_le_mul_right k hc1
    have := AnyQ.slices_SortFunc_eq L k aE zE enc hk h1 cf hO g cb b 0 c l.toArray w eg hC hH hlt (by simpa using hq)
    simp only [List.size_toArray] at this
    refine this.mono ?_
    rintro e w' ⟨rfl, m, os, hw⟩
    have e1 : Sort.pdq (ltOf cf) l.toArray 0 l.length (Lib.bitLen l.length) true true = (pdqL cf l).toArray := by simp [pdqL]
    rw [e1] at hw
    have hl' := pdqL_len hO l
    obtain ⟨cur', g1, g2, g3⟩ := heap_sorted (m := m) (os := os) (d' := (pdqL cf l).toArray) hk hg (by simp [hl']; omega)
    rw [← hw] at g1
    refine ⟨pdqL cf l, rfl, rfl, ?_⟩
    have hT := hM.turn (i := 0) rfl (p' := .own T k (.slice (some ⟨b, 0, none⟩) l.length c) l.length ((pdqL cf l).flatMap enc)) (w' := w') (by rw [hw]; exact sorted_grown hlt) ⟨by
      rw [flatMap_len hk, hl'], .inr ⟨b, c, cur', rfl, hb, g1, hc1, hc2, by omega, by simpa [hl'] using g3⟩⟩ (.inl rfl)
    have conv : ∀ i p, HL.get ([(0, It.own T k (.slice (some ⟨b, 0, none⟩) l.length c) l.length ((pdqL cf l).flatMap enc))] ++ K) i = some p → HL.get ((0, It.own T k (.slice (some ⟨b, 0, none⟩) l.length c) l.length ((pdqL cf l).flatMap enc)) :: ([(0, It.own T k (.slice (some ⟨b, 0, none⟩) l.length c) l.length (l.flatMap enc))] ++ K)) i = some p := by
      intro i p hp
      simp only [HL.get, List.cons_append, List.nil_append] at hp ⊢
      cases hb : Nat.beq 0 i
      · rw [hb] at hp; exact hp
      · rw [hb] at hp; exact hp
    exact ⟨hT.below, fun i p hp => hT.sat i p (conv i p hp), fun i j p q hij hp hq => hT.apart i j p q hij (conv i p hp) (conv j q hq)⟩
end
/-- what one item's block becomes does not touch the others -/
theorem Mem.others {w0 w w' : World} {L : HL} (h : Mem w0 L w) {i j : Nat} {p q : It} (hp : L.get i = some p) (hb : w.grownBy w' p.foot) (hj : j ≠ i) (hq : L.get j = some q) : RowKit.Below w0.heap.size w0 w' ∧ q.sat w0.heap.size w' :=
  ⟨h.below.grown hb h.size (fun k hk => (It.lt (h.sat i p hp) k (It.on_foot hk)).1), It.keep (h.sat j q hq) fun b hfb => hb.block b (It.lt (h.sat j q hq) b hfb).2 (fun e => h.apart j i q p hj hq hp b hfb (It.on_foot e.symm))⟩
end Go.Eng
