/- Rows of ours that are read and no more turned ('many'), facts that stand on them, and a walk that begins anew where only reading is left. No condition. -/
import Derived.Test.YtgbldojgbpgjbaaGreatDoorGrd
import Derived.Test.YtgbldojgbpgjbaaGreatDoorLend
namespace Go.Eng
open Go.RowKit
set_option linter.unusedVariables false
section
variable {P : Program} {w0 w : World} {n : Nat} {ops : Array Oper} {l : List Oper} {c : Code} {F : FL} {L : HL} {Q : Exit → Act → World → Prop} {o : Oper} {rs : List Row} {m i : Nat}
theorem T_many0 (m : Nat) (h : T P w0 n c F ((m, .many []) :: L) Q) : T P w0 n c F L Q := fun a w hF hM => h a w hF (hM.many0 m)
theorem S_many0 (m : Nat) (h : S P w0 n ops l F ((m, .many []) :: L) Q) : S P w0 n ops l F L Q := fun a w hF hM => h a w hF (hM.many0 m)
theorem get_drop_of {i j : Nat} {q : It} (hj : j ≠ i) : ∀ {L : HL}, L.get j = some q → HL.get (HL.drop i L) j = some q
  | [], h => by simp [HL.get] at h
  | (k, p) :: r, h => by
    unfold HL.drop
    cases hk : Nat.beq k i
    · simp only [cond_false, HL.get]
      simp only [HL.get] at h
      cases hb : Nat.beq k j
      · rw [hb] at h; exact get_drop_of hj h
      · rw [hb] at h; exact h
    · have e := Nat.eq_of_beq_eq_true hk
      simp only [cond_true]
      refine get_drop_of hj ?_
      simp only [HL.get] at h
      have : Nat.beq k j = false := by
        cases hb : Nat.beq k j
        · rfl
        · exact (hj ((Nat.eq_of_beq_eq_true hb).symm.trans e)).elim
      rw [this] at h; exact h
theorem Mem.bankK {ks : List (Nat × Nat)} {KL : HL} (h : Mem w0 L w) {t : TypeId} {s q : Nat} {v : Value} {xs : List Value} (hm : L.get m = some (.many rs)) (hi : L.get i = some (.own t s v q xs)) (hmi : Nat.beq m i = false)
    (hK : KeepL ks L KL) (hki : memR ks i = true) : Mem w0 ((m, .many (rs ++ [⟨t, s, v, q, xs⟩])) :: KL) w := by
  have hb := h.bank hm hi (by intro e; subst e; simp at hmi)
  have g : ∀ j p, HL.get ((m, It.many (rs ++ [⟨t, s, v, q, xs⟩])) :: KL) j = some p → HL.get ((m, It.many (rs ++ [⟨t, s, v, q, xs⟩])) :: HL.drop i L) j = some p := fun j p hp => by
    rcases HL.get_cons hp with ⟨rfl, rfl⟩ | ⟨hjm, h'⟩
    · simp [HL.get]
    · obtain ⟨h1, h2⟩ := hK j p h'
      have hji : j ≠ i := by intro e; subst e; rw [hki] at h1; cases h1
      have : Nat.beq m j = false := by
        cases hb : Nat.beq m j
        · rfl
        · exact (hjm (Nat.eq_of_beq_eq_true hb).symm).elim
      simp only [HL.get, this, cond_false]
      exact get_drop_of hji h2
  exact ⟨hb.below, fun j p hp => hb.sat j p (g j p hp), fun j k p r hjk hp hr => hb.apart j k p r hjk (g j p hp) (g k r hr)⟩
theorem S_bank (ks : List (Nat × Nat)) (m i : Nat) {KL : HL} {t : TypeId} {s q : Nat} {v : Value} {xs : List Value} (hm : L.get m = some (.many rs)) (hi : L.get i = some (.own t s v q xs)) (hmi : Nat.beq m i = false) (hki : memR ks i = true) (hK : KeepL ks L KL)
    (h : S P w0 n ops l F ((m, .many (rs ++ [⟨t, s, v, q, xs⟩])) :: KL) Q) : S P w0 n ops l F L Q := fun a w hF hM => h a w hF (hM.bankK hm hi hmi hK hki)
/-- flat rows have their length -/
theorem flat_lenN {α : Type} {enc : α → List Value} {size : Nat} (hs : ∀ x, (enc x).length = size) : ∀ l : List α, (l.flatMap enc).length = l.length * size
  | [] => by simp
  | a :: r => by simp [flat_lenN hs r, hs a, Nat.add_mul, Nat.add_comm]
theorem cells_below {w' : World} {b : Nat} {cs : List Value} (h : (∀ j u, cs[j]? = some u → w.cell? ((⟨b, 0, none⟩ : Addr).add j) = some u) ∧ b < w.heap.size) (hb : Below w.heap.size w w') : (∀ j u, cs[j]? = some u → w'.cell? ((⟨b, 0, none⟩ : Addr).add j) = some u) ∧ b < w'.heap.size :=
  ⟨fun j u hu => (hb.cell (by rw [block_of_add]; exact h.2)).trans (h.1 j u hu), Nat.lt_of_lt_of_le h.2 hb.size⟩
/-- A fact that stands on rows, and on what stood when the call began. -/
def Sees (w0 : World) (rs : List Row) (φ : World → Prop) : Prop := ∀ w, Below w0.heap.size w0 w → (∀ r ∈ rs, w.ownsRow w0.heap.size r.t r.size r.v r.n r.xs) → φ w
theorem Sees.at {φ : World → Prop} (h : Sees w0 rs φ) (hM : Mem w0 L w) (m : Nat) (hL : L.get m = some (.many rs)) : φ w := h w hM.below (hM.sat m _ hL)
theorem Sees.more {φ : World → Prop} {rs' : List Row} (h : Sees w0 rs φ) (hs : ∀ r ∈ rs, r ∈ rs') : Sees w0 rs' φ := fun w hb hr => h w hb fun r h1 => hr r (hs r h1)
theorem Sees.app {φ : World → Prop} {rs' : List Row} (h : Sees w0 rs φ) : Sees w0 (rs ++ rs') φ := h.more fun r h1 => List.mem_append_left _ h1
theorem Sees.map {φ ψ : World → Prop} (h : Sees w0 rs φ) (hf : ∀ w, φ w → ψ w) : Sees w0 rs ψ := fun w hb hr => hf w (h w hb hr)
theorem Sees.all {α : Type} {l : List α} {φ : α → World → Prop} (h : ∀ x ∈ l, Sees w0 rs (φ x)) : Sees w0 rs fun w => ∀ x ∈ l, φ x w := fun w hb hr x hx => h x hx w hb hr
theorem row_ok {α : Type} {enc : α → List Value} {size B : Nat} {e : TypeId} {A : Option Addr} {c q : Nat} {l : List α} (h : w.ownsRow B e size (.slice A q c) q (l.flatMap enc)) (hq : l.length = q) : Sl.Ok enc size w ⟨A, q, c, l⟩ := by
  have h0 := h.1
  refine ⟨⟨⟨h0, fun (hq0 : 0 < q) => ?_⟩, hq⟩, ?_⟩
  · rcases h.2 with ⟨_, hz⟩ | ⟨gb, cap, cur, hv, _, hg, _⟩
    · omega
    · have hA : A = some ⟨gb, 0, none⟩ := by injection hv
      subst hA
      exact ⟨_, rfl, (Array.getElem?_eq_some_iff.1 hg).1, fun j u hu => h.cells (g := gb) rfl j u hu⟩
  · rcases h.2 with ⟨hv, hz⟩ | ⟨g, cap, cur, hv, _, _, hnc, _⟩
    · show q ≤ c
      omega
    · have : c = cap := by injection hv
      show q ≤ c
      omega
/-- a row among them -/
theorem Sees.row {α : Type} {enc : α → List Value} {size : Nat} {e : TypeId} {A : Option Addr} {c q : Nat} {l : List α} (hr : (⟨e, size, .slice A q c, q, l.flatMap enc⟩ : Row) ∈ rs) (hq : l.length = q) : Sees w0 rs fun w => Sl.Ok enc size w ⟨A, q, c, l⟩ := fun w _ h => row_ok (h _ hr) hq
end
end Go.Eng
